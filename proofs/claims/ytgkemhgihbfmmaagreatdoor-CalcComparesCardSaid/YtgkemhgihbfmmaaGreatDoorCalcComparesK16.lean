/- Part 17 of the proof for CalcCompares: functions of the program as plain Lean functions, their calls, and what they come to. -/
import Derived.WalkKit
import Derived.Test.YtgkemhgihbfmmaaGreatDoorCalcComparesK3
import Derived.Test.YtgkemhgihbfmmaaGreatDoorCalcComparesK0
import Derived.Test.YtgkemhgihbfmmaaGreatDoorCalcComparesK4
import Derived.Test.YtgkemhgihbfmmaaGreatDoorCalcComparesK14
import Derived.Test.YtgkemhgihbfmmaaGreatDoorCalcComparesK11
set_option linter.unusedVariables false
set_option linter.unusedSimpArgs false
namespace Go.Proofs.YtgkemhgihbfmmaaGreatDoor.PA
open Go.RowKit Go.Proofs.YtgkemhgihbfmmaaGreatDoorW.PrintWords Go.Proofs.YtgkemhgihbfmmaaGreatDoorW.PrintLast Go.Proofs.YtgkemhgihbfmmaaGreatDoorW.PrintMore
theorem am {p : Prop} (h : p) : Aside0 p := ⟨h⟩
theorem bz {n : Nat} {a W W1 : World} (h : Below n a W) (f : Below n a W → Below n a W1 := by intro h; repeat (first | (with_reducible first | exact h | apply below_alloc | apply pw_below_drewN | apply below_drew1 | refine below_set ?_ (Aside0.out (by assumption)) | refine below_set ?_ (IsS63.ge (Aside0.out (by assumption)))) | exact h)) : Below n a W1 := f h
theorem bk {p q : Prop} (h : q) (f : q → p := by intro h; (with_reducible repeat (first | refine blk_drewN ?_ _ | refine blk_drew ?_ | refine blk_alloc ?_ _)); exact h) : p := f h
theorem rr {p q : Prop} (h : q) (f : q → p := by intro h; (with_reducible repeat (first | apply Kd.R_alloc | apply Kd.R_drewN | apply Kd.R_drew)); exact h) : p := f h
theorem vv {p q : Prop} (h : q) (f : q → p := by intro h; (with_reducible repeat (first | apply Kd.V_alloc | apply Kd.V_drewN | apply Kd.V_drew)); exact h) : p := f h
theorem nn {p q : Prop} (h : q) (f : q → p := by intro h; (with_reducible repeat (first | apply Kd.N_alloc | apply Kd.N_drewN | apply Kd.N_drew)); exact h) : p := f h
theorem hz {p q : Prop} (h : q) (f : q → p := by intro h; repeat (first | (with_reducible first | exact h | apply IsS63.alloc | apply IsS63.drewN | apply IsS63.drew | apply IsS63.set_1 | apply IsS63.set_2 | apply IsS63.set_3 | apply IsS63.set_4 | apply IsS63.set_5 | (apply IsS63.far; case hne => exact Aside0.out (by assumption))) | exact h)) : p := f h
theorem kz {a W W1 : World} {g : Nat} {row : Option Nat} (h : KeepBut a W g row) (f : KeepBut a W g row → KeepBut a W1 g row := by intro h; repeat (first | (with_reducible first | exact h | apply KeepBut.set_ | apply keep_drewN | apply keep_drew | apply keep_alloc | refine keep_far ?_ (Aside0.out (by assumption)) _) | exact h)) : KeepBut a W1 g row := f h
theorem az {p : Prop} (h : p := by first | rfl | (simp [errW_none, errW_some] <;> rfl) | (simp [*, errW_none, errW_some] <;> rfl)) : p := h
theorem sz {p : Prop} (h : p := by first | rfl | (simp; done) | (simp [*]; done)) : p := h
theorem dz {p : Prop} (h : p := by repeat (first | exact Drawn0.refl _ | apply Drawn0.step)) : p := h
theorem oz {p : Prop} (h : p := by first | omega | exact Nat.le_refl _) : p := h
theorem lz {p : Prop} (h : p := by (try simp only [List.map_toArray, List.map_cons, List.map_nil]); first | done | rfl | (simp only [List.length_drop, List.length_take]; rfl)) : p := h
theorem tz {p : Prop} (h : p := by first | (with_reducible assumption) | assumption) : p := h
theorem geq {n g s : Nat} (hg : g = s) (h : n ≤ s) : n ≤ g := hg ▸ h
theorem nlt {a g s : Nat} (hg : g = s) (h : a < s) : a ≠ g := by omega
theorem ngt {a g s : Nat} (hg : g = s) (h : a < s) : g ≠ a := by omega
section
variable {P : Program} {ops : Array Oper} {Q : Exit → Act → World → Prop} {md : Region.Mode} {S : World → Prop} {ds : List Nat}
theorem bev {rest : List Oper} {o : Oper} {a : Act} {W : World} {N : Tmp} (cs : Array Value) (t : TypeId)
    (h : ∀ g, g = W.heap.size → ∀ w1, w1.heap[g]? = some (.cells cs t (0, 0)) → Below W.heap.size W w1 → wpList P ops Q rest (a.put o.dst (.pointer (some ⟨g, 0, none⟩))) w1) (hd : o.dst = some N := by rfl) (hgd : o.guard = none := by rfl)
    (hrun : (execOp a.eval o).run P W = .ok (.value (.pointer (some ⟨W.heap.size, 0, none⟩))) (W.alloc (.cells cs t (0, 0))) := by first | (go_simp; done) | (go_simp; rfl)) : wpList P ops Q (o :: rest) a W :=
  box_event hgd hd hrun h
theorem gl_ {rest : List Oper} {oi : Oper} {a : Act} {w : World} (N : Option Tmp) {f : FuncId} {fn : Func} (hf : P.funcs[f]? = some fn) (hbd : fn.body.isSome = true) (args : Array Value) {as : Array Operand} {ts : Array TypeId}
    (hop : oi.op = .call { callee := .value (.func f), args := as, argTypes := ts })
    (h : Calls P f args w fun e w' => ∃ v, e = .returned v ∧ wpList P ops Q rest (a.put N v) w') (hd : oi.dst = N := by rfl) (hg : oi.guard = none := by rfl) (hname : (fn.name == "runtime.NumGoroutine") = false := by kernel_rfl)
    (hargs : as.map a.eval = args := by (try simp only [List.map_toArray, List.map_cons, List.map_nil]); first | done | rfl | (simp only [List.length_drop, List.length_take]; rfl)) : wpList P ops Q (oi :: rest) a w :=
  goesL_ N hd hg hf hname hbd args hop hargs h
def bts (n m : Nat) : Array Bool := ((List.range n).map fun i => m.testBit i).toArray
theorem pu {v : Value} {fuel : Nat} {l : Array Bool} {a a' : Act} {w : World} {oi : Oper} (i : Nat) (N : Option Tmp) (l' : Array Bool) (hc : anyB md ops l l' i = true)
    (h : wpAnyLast P md ops Q S ds fuel l' a' w) (hi : ops[i]? = some oi := by exact rfl) (hN : oi.dst = N := by rfl)
    (hw : Region.wanted oi (yielded ops a.tmps) = true := by rfl) (hQ : ∀ c a w, Q (.panic c) (a.put oi.dst v) w → Q (.panic c) a w := by exact fun _ _ _ h => h)
    (hr : ∀ w', (execOp a.eval oi).run P w' = .ok (.value v) w' := by intro w'; go_simp; with_reducible rfl)
    (ha : a.put N v = a' := by simp only [Act.put, List.setIfInBounds_toArray, List.set_cons_zero, List.set_cons_succ, i64_w, i32_w]; rfl) : wpAnyLast P md ops Q S ds (fuel + 1) l a w :=
  pure_ l' hi hN hc hQ (Or.inl ⟨hw, hr⟩) ha h
theorem ta {v : Value} {fuel : Nat} {l : Array Bool} {a a' : Act} {w : World} {oi : Oper} (i : Nat) (N : Option Tmp) (l' : Array Bool) (hc : takeB md ops ds l l' i = true) (hS : S w)
    (h : wpAnyLast P md ops Q S ds fuel l' a' w) (hi : ops[i]? = some oi := by exact rfl) (hN : oi.dst = N := by rfl)
    (hw : Region.wanted oi (yielded ops a.tmps) = true := by rfl) (hQ : ∀ c a w, Q (.panic c) (a.put oi.dst v) w → Q (.panic c) a w := by exact fun _ _ _ h => h)
    (hr : ∀ w', S w' → (execOp a.eval oi).run P w' = .ok (.value v) w' := by intro w' hs; (repeat (obtain ⟨_, hs⟩ := hs)); go_simp; with_reducible rfl)
    (ha : a.put N v = a' := by simp only [Act.put, List.setIfInBounds_toArray, List.set_cons_zero, List.set_cons_succ, i64_w, i32_w]; rfl) : wpAnyLast P md ops Q S ds (fuel + 1) l a w :=
  take_ l' hi hN hc hQ (Or.inl ⟨hw, hr⟩) hS ha h
theorem pn {fuel : Nat} {l : Array Bool} {a a' : Act} {w : World} {oi : Oper} (i : Nat) (N : Option Tmp) (l' : Array Bool) (hc : anyB md ops l l' i = true)
    (h : wpAnyLast P md ops Q S ds fuel l' a' w) (hi : ops[i]? = some oi := by exact rfl) (hN : oi.dst = N := by rfl)
    (hw : Region.wanted oi (yielded ops a.tmps) = false := by rfl) (hQ : ∀ c a w, Q (.panic c) (a.put oi.dst undef) w → Q (.panic c) a w := by exact fun _ _ _ h => h)
    (ha : a.put N undef = a' := by simp only [Act.put, List.setIfInBounds_toArray, List.set_cons_zero, List.set_cons_succ, i64_w, i32_w]; rfl) : wpAnyLast P md ops Q S ds (fuel + 1) l a w :=
  pure_ l' hi hN hc hQ (Or.inr ⟨hw, rfl⟩) ha h
end
theorem isEmpty_beq (l : List UInt8) : l.isEmpty = (l == []) := by cases l <;> rfl
theorem vne {α : Type} {d : Kd α} {e base n c g : Nat} {W : World} {ok : Nat → Prop} {xs : List α} {ad : Addr} (h : Kd.V d e W base ok (.slice (some ad) n c) xs) (z : α) (i : Int) (h0 : 0 ≤ i) (h1 : i < n) (hs : 0 < d.sz) (hok : ∀ k, ok k → k ≠ g) : ad.block ≠ g := by
  obtain ⟨ad', cs, he, _, _, _, hb⟩ := Kd.F_get (Kd.V_F h) z i h0 h1
  injection he with he
  subst he
  exact hok _ (hb hs)
theorem isSome_set (w : World) (a b : Addr) (u : Value) : ((w.setCell b u).cell? a).isSome = (w.cell? a).isSome := by
  by_cases h : b = a
  · subst h
    cases e : w.cell? b with
    | none =>
      simp only [World.setCell, World.cell?, Array.getElem?_modify] at e ⊢
      cases hb : w.heap[b.block]? with
      | none => rfl
      | some o =>
        rw [hb] at e
        cases o <;> simp_all
    | some x => rw [World.cell?_setCell_same' w b u (by rw [e]; rfl)]; rfl
  · rw [World.cell?_setCell_other (h := h)]
section
variable {w : World} {g : Nat} {t : TypeId} {a b c d e f x y : Value}
theorem czc1 (h : w.heap[g]? = some (.cells #[a] t (0, 0))) : w.cell? ⟨g, 0, none⟩ = some a := (blk_cell h 0).trans rfl
theorem cz1 (h : w.heap[g]? = some (.cells #[a] t (0, 0))) : w.cell? ⟨g, 0, none⟩ = some a ∧ w.frozen? ⟨g, 0, none⟩ = false := ⟨(blk_cell h 0).trans rfl, blk_frozen h 0⟩
theorem cz2 (h : w.heap[g]? = some (.cells #[a, b] t (0, 0))) : w.cell? ⟨g, 0, none⟩ = some a ∧ w.cell? ⟨g, 1, none⟩ = some b ∧ w.frozen? ⟨g, 0, none⟩ = false ∧ w.frozen? ⟨g, 1, none⟩ = false := ⟨(blk_cell h 0).trans rfl, (blk_cell h 1).trans rfl, blk_frozen h 0, blk_frozen h 1⟩
theorem cz5 (h : w.heap[g]? = some (.cells #[a, b, c, d, e] t (0, 0))) : w.cell? ⟨g, 0, none⟩ = some a ∧ w.cell? ⟨g, 1, none⟩ = some b ∧ w.cell? ⟨g, 2, none⟩ = some c ∧ w.cell? ⟨g, 3, none⟩ = some d ∧ w.cell? ⟨g, 4, none⟩ = some e ∧ w.frozen? ⟨g, 0, none⟩ = false ∧ w.frozen? ⟨g, 1, none⟩ = false ∧ w.frozen? ⟨g, 2, none⟩ = false ∧ w.frozen? ⟨g, 3, none⟩ = false ∧ w.frozen? ⟨g, 4, none⟩ = false :=
  ⟨(blk_cell h 0).trans rfl, (blk_cell h 1).trans rfl, (blk_cell h 2).trans rfl, (blk_cell h 3).trans rfl, (blk_cell h 4).trans rfl, blk_frozen h 0, blk_frozen h 1, blk_frozen h 2, blk_frozen h 3, blk_frozen h 4⟩
theorem cz6 (h : w.heap[g]? = some (.cells #[a, b, c, d, e, f] t (0, 0))) : w.cell? ⟨g, 0, none⟩ = some a ∧ w.cell? ⟨g, 1, none⟩ = some b ∧ w.cell? ⟨g, 2, none⟩ = some c ∧ w.cell? ⟨g, 3, none⟩ = some d ∧ w.cell? ⟨g, 4, none⟩ = some e ∧ w.cell? ⟨g, 5, none⟩ = some f ∧ w.frozen? ⟨g, 0, none⟩ = false ∧ w.frozen? ⟨g, 1, none⟩ = false ∧ w.frozen? ⟨g, 2, none⟩ = false ∧ w.frozen? ⟨g, 3, none⟩ = false ∧ w.frozen? ⟨g, 4, none⟩ = false ∧ w.frozen? ⟨g, 5, none⟩ = false :=
  ⟨(blk_cell h 0).trans rfl, (blk_cell h 1).trans rfl, (blk_cell h 2).trans rfl, (blk_cell h 3).trans rfl, (blk_cell h 4).trans rfl, (blk_cell h 5).trans rfl, blk_frozen h 0, blk_frozen h 1, blk_frozen h 2, blk_frozen h 3, blk_frozen h 4, blk_frozen h 5⟩
theorem cz8 (h : w.heap[g]? = some (.cells #[a, b, c, d, e, f, x, y] t (0, 0))) : w.cell? ⟨g, 0, none⟩ = some a ∧ w.cell? ⟨g, 1, none⟩ = some b ∧ w.cell? ⟨g, 2, none⟩ = some c ∧ w.cell? ⟨g, 3, none⟩ = some d ∧ w.cell? ⟨g, 4, none⟩ = some e ∧ w.cell? ⟨g, 5, none⟩ = some f ∧ w.cell? ⟨g, 6, none⟩ = some x ∧ w.cell? ⟨g, 7, none⟩ = some y ∧ w.frozen? ⟨g, 0, none⟩ = false ∧ w.frozen? ⟨g, 1, none⟩ = false ∧ w.frozen? ⟨g, 2, none⟩ = false ∧ w.frozen? ⟨g, 3, none⟩ = false ∧ w.frozen? ⟨g, 4, none⟩ = false ∧ w.frozen? ⟨g, 5, none⟩ = false ∧ w.frozen? ⟨g, 6, none⟩ = false ∧ w.frozen? ⟨g, 7, none⟩ = false :=
  ⟨(blk_cell h 0).trans rfl, (blk_cell h 1).trans rfl, (blk_cell h 2).trans rfl, (blk_cell h 3).trans rfl, (blk_cell h 4).trans rfl, (blk_cell h 5).trans rfl, (blk_cell h 6).trans rfl, (blk_cell h 7).trans rfl, blk_frozen h 0, blk_frozen h 1, blk_frozen h 2, blk_frozen h 3, blk_frozen h 4, blk_frozen h 5, blk_frozen h 6, blk_frozen h 7⟩
end
section
variable {w : World} {g : Nat} {t : TypeId} {a b c d e f x y a' b' c' d' e' f' x' y' : Value}
theorem put2 (h : w.heap[g]? = some (.cells #[a, b] t (0, 0))) : ((w.setCell ⟨g, 0, none⟩ a').setCell ⟨g, 1, none⟩ b').heap[g]? = some (.cells #[a', b'] t (0, 0)) := blk_put (cs' := #[a', b']) (blk_put (cs' := #[a', b]) h 0 a' rfl) 1 b' rfl
theorem put5 (h : w.heap[g]? = some (.cells #[a, b, c, d, e] t (0, 0))) : (((((w.setCell ⟨g, 0, none⟩ a').setCell ⟨g, 1, none⟩ b').setCell ⟨g, 2, none⟩ c').setCell ⟨g, 3, none⟩ d').setCell ⟨g, 4, none⟩ e').heap[g]? = some (.cells #[a', b', c', d', e'] t (0, 0)) := blk_put (cs' := #[a', b', c', d', e']) (blk_put (cs' := #[a', b', c', d', e]) (blk_put (cs' := #[a', b', c', d, e]) (blk_put (cs' := #[a', b', c, d, e]) (blk_put (cs' := #[a', b, c, d, e]) h 0 a' rfl) 1 b' rfl) 2 c' rfl) 3 d' rfl) 4 e' rfl
theorem put6 (h : w.heap[g]? = some (.cells #[a, b, c, d, e, f] t (0, 0))) : ((((((w.setCell ⟨g, 0, none⟩ a').setCell ⟨g, 1, none⟩ b').setCell ⟨g, 2, none⟩ c').setCell ⟨g, 3, none⟩ d').setCell ⟨g, 4, none⟩ e').setCell ⟨g, 5, none⟩ f').heap[g]? = some (.cells #[a', b', c', d', e', f'] t (0, 0)) := blk_put (cs' := #[a', b', c', d', e', f']) (blk_put (cs' := #[a', b', c', d', e', f]) (blk_put (cs' := #[a', b', c', d', e, f]) (blk_put (cs' := #[a', b', c', d, e, f]) (blk_put (cs' := #[a', b', c, d, e, f]) (blk_put (cs' := #[a', b, c, d, e, f]) h 0 a' rfl) 1 b' rfl) 2 c' rfl) 3 d' rfl) 4 e' rfl) 5 f' rfl
theorem put8 (h : w.heap[g]? = some (.cells #[a, b, c, d, e, f, x, y] t (0, 0))) : ((((((((w.setCell ⟨g, 0, none⟩ a').setCell ⟨g, 1, none⟩ b').setCell ⟨g, 2, none⟩ c').setCell ⟨g, 3, none⟩ d').setCell ⟨g, 4, none⟩ e').setCell ⟨g, 5, none⟩ f').setCell ⟨g, 6, none⟩ x').setCell ⟨g, 7, none⟩ y').heap[g]? = some (.cells #[a', b', c', d', e', f', x', y'] t (0, 0)) := blk_put (cs' := #[a', b', c', d', e', f', x', y']) (blk_put (cs' := #[a', b', c', d', e', f', x', y]) (blk_put (cs' := #[a', b', c', d', e', f', x, y]) (blk_put (cs' := #[a', b', c', d', e', f, x, y]) (blk_put (cs' := #[a', b', c', d', e, f, x, y]) (blk_put (cs' := #[a', b', c', d, e, f, x, y]) (blk_put (cs' := #[a', b', c, d, e, f, x, y]) (blk_put (cs' := #[a', b, c, d, e, f, x, y]) h 0 a' rfl) 1 b' rfl) 2 c' rfl) 3 d' rfl) 4 e' rfl) 5 f' rfl) 6 x' rfl) 7 y' rfl
end
theorem bp {w W : World} {g : Nat} {o o' : Obj} (h : w.heap[g]? = some o) (f : w.heap[g]? = some o → W.heap[g]? = some o' := by
    intro h; (with_reducible repeat (first | exact h | refine blk_drewN ?_ _ | refine blk_drew ?_ | refine blk_alloc ?_ _ | apply put8 | apply put6 | apply put5 | apply put4 | apply put3 | apply put2 | apply put1 | apply put6_1 | apply put5_12 | apply put5_3 | refine blk_far ?_ (Aside0.out (by assumption)) _))) : W.heap[g]? = some o' := f h
theorem cf {w W : World} {p : Addr} {v : Value} (h : w.cell? p = some v) (f : w.cell? p = some v → W.cell? p = some v := by
    intro h; repeat (first | (with_reducible exact h) | ((with_reducible refine (cell_far ?_ _).trans ?_); (first | exact Aside0.out (by assumption) | (rw [add_block]; exact Aside0.out (by assumption)) | (show (Addr.add _ _).block ≠ _; rw [add_block]; exact Aside0.out (by assumption)) | (dsimp only; exact Aside0.out (by assumption)))) | exact h)) : W.cell? p = some v := f h
section
open Kd
variable {α : Type} {d : Kd α} {e : Nat} {w W : World} {base : Nat} {ok ok' : Nat → Prop} {v : Value} {xs : List α}
theorem vfV (h : Kd.V d e w base ok v xs) (hm : ∀ k, ok k → ok' k := by intro k hk; first | trivial | exact hk | ((try simp only [and_assoc] at hk ⊢); (repeat (have := hk.1; replace hk := hk.2)); (repeat' apply And.intro) <;> assumption)) (f : Kd.V d e w base ok v xs → Kd.V d e W base ok v xs := by
    intro h; repeat (first | (with_reducible exact h) | (with_reducible apply Kd.V_alloc) | (with_reducible apply Kd.V_drewN) | (with_reducible apply Kd.V_drew) | (with_reducible refine Kd.V_far ?_ ?_ _; rotate_left; (intro k hk; first | exact hk.2 | exact hk.1 | ((try simp only [and_assoc] at hk); (repeat (have := hk.1; replace hk := hk.2)); assumption))) | exact h)) : Kd.V d e W base ok' v xs := Kd.V_mono (f h) hm
theorem vfN (h : Kd.N d e w base ok v xs) (hm : ∀ k, ok k → ok' k := by intro k hk; first | trivial | exact hk | ((try simp only [and_assoc] at hk ⊢); (repeat (have := hk.1; replace hk := hk.2)); (repeat' apply And.intro) <;> assumption)) (f : Kd.N d e w base ok v xs → Kd.N d e W base ok v xs := by
    intro h; repeat (first | (with_reducible exact h) | (with_reducible apply Kd.N_alloc) | (with_reducible apply Kd.N_drewN) | (with_reducible apply Kd.N_drew) | (with_reducible refine Kd.N_far ?_ ?_ _; rotate_left; (intro k hk; first | exact hk.2 | exact hk.1 | ((try simp only [and_assoc] at hk); (repeat (have := hk.1; replace hk := hk.2)); assumption))) | exact h)) : Kd.N d e W base ok' v xs := Kd.N_mono (f h) hm
theorem vfR (h : d.R e w base ok v xs) (hm : ∀ k, ok k → ok' k := by intro k hk; first | trivial | exact hk | ((try simp only [and_assoc] at hk ⊢); (repeat (have := hk.1; replace hk := hk.2)); (repeat' apply And.intro) <;> assumption)) (f : d.R e w base ok v xs → d.R e W base ok v xs := by
    intro h; repeat (first | (with_reducible exact h) | (with_reducible apply Kd.R_alloc) | (with_reducible apply Kd.R_drewN) | (with_reducible apply Kd.R_drew) | (with_reducible refine Kd.R_far ?_ ?_ _; rotate_left; (intro k hk; first | exact hk.2 | exact hk.1 | ((try simp only [and_assoc] at hk); (repeat (have := hk.1; replace hk := hk.2)); assumption))) | exact h)) : d.R e W base ok' v xs := Kd.R_mono (f h) hm
end
theorem nlx {w0 : World} {a : Addr} {v : Value} {n g : Nat} (hw : w0.cell? a = some v) (hl : w0.heap.size ≤ n) (hg : n ≤ g) : a.block ≠ g := by
  have := World.block_lt_of_cell? _ _ hw; omega
theorem cg {w W : World} {q p : Addr} {g : Nat} {v : Value} (hn : q.block ≠ g) (h : w.cell? p = some v) (f : q.block ≠ g → w.cell? p = some v → W.cell? p = some v := by
    intro hn h; repeat (first | (with_reducible exact h) | ((with_reducible refine (cell_far ?_ _).trans ?_); (first | exact hn | (rw [add_block]; exact hn) | (show (Addr.add _ _).block ≠ _; rw [add_block]; exact hn) | (dsimp only; exact hn))) | exact h)) : W.cell? p = some v := f hn h
theorem lmo {p : Prop} (h : p := by
    repeat' first | (with_reducible exact LeO.refl _) | (with_reducible exact LeO.none _) | (with_reducible refine LeO.ite ?_ ?_) | (with_reducible refine LeO.bind ?_ (fun _ => ?_)) | (with_reducible apply_assumption) | exact LeO.none _ | refine LeO.ite ?_ ?_ | refine LeO.bind ?_ (fun _ => ?_) | apply_assumption) : p := h
def bts0 (n : Nat) : Array Bool := Array.replicate n false
theorem hbw {w0 w : World} {p : Addr} {v : Value} (h : Below w0.heap.size w0 w) (hw : w0.cell? p = some v) : w.cell? p = some v := (h.cell (World.block_lt_of_cell? w0 _ hw)).trans hw
theorem kb {w V w1 : World} {g : Nat} {o : Obj} (h : Aside0 (w.heap[g]? = some o)) (hb : Below V.heap.size V w1) (f : w.heap[g]? = some o → V.heap[g]? = some o := by intro h; (with_reducible repeat (first | refine blk_drewN ?_ _ | refine blk_drew ?_ | refine blk_alloc ?_ _)); exact h) : Aside0 (w1.heap[g]? = some o) := ⟨blk_below (f h.out) hb⟩
theorem sb {a W V w1 : World} (h : Aside0 (Below a.heap.size a W)) (hb : Below V.heap.size V w1) (f : Below a.heap.size a W → Below a.heap.size a V := by intro h; repeat (first | (with_reducible first | exact h | apply below_alloc | apply pw_below_drewN | apply below_drew1 | refine below_set ?_ (Aside0.out (by assumption)) | refine below_set ?_ (IsS63.ge (Aside0.out (by assumption)))) | exact h)) : Aside0 (Below a.heap.size a w1) := ⟨below_step (f h.out) hb⟩
theorem gs {a W V : World} {x : Nat} (hg : x = V.heap.size) (h : Aside0 (Below a.heap.size a W)) (f : Below a.heap.size a W → Below a.heap.size a V := by intro h; repeat (first | (with_reducible first | exact h | apply below_alloc | apply pw_below_drewN | apply below_drew1 | refine below_set ?_ (Aside0.out (by assumption)) | refine below_set ?_ (IsS63.ge (Aside0.out (by assumption)))) | exact h)) : Aside0 (a.heap.size ≤ x) := ⟨geq hg (below_size (f h.out))⟩
theorem gk {a W V : World} {x g : Nat} {row : Option Nat} (hg : x = V.heap.size) (h : Aside0 (KeepBut a W g row)) (f : KeepBut a W g row → KeepBut a V g row := by intro h; repeat (first | (with_reducible first | exact h | apply KeepBut.set_ | apply keep_drewN | apply keep_drew | apply keep_alloc | refine keep_far ?_ (Aside0.out (by assumption)) _) | exact h)) : Aside0 (a.heap.size ≤ x) := ⟨geq hg (keep_size (f h.out))⟩
theorem na {w V : World} {x g : Nat} {o : Obj} (hg : x = V.heap.size) (h : Aside0 (w.heap[g]? = some o)) (f : w.heap[g]? = some o → V.heap[g]? = some o := by intro h; (with_reducible repeat (first | refine blk_drewN ?_ _ | refine blk_drew ?_ | refine blk_alloc ?_ _)); exact h) : Aside0 (g ≠ x) := ⟨nlt hg (blk_lt (f h.out))⟩
theorem nb {w V : World} {x g : Nat} {o : Obj} (hg : x = V.heap.size) (h : Aside0 (w.heap[g]? = some o)) (f : w.heap[g]? = some o → V.heap[g]? = some o := by intro h; (with_reducible repeat (first | refine blk_drewN ?_ _ | refine blk_drew ?_ | refine blk_alloc ?_ _)); exact h) : Aside0 (x ≠ g) := ⟨ngt hg (blk_lt (f h.out))⟩
section
open Kd
variable {P : Program} {ops : Array Oper} {Q : Exit → Act → World → Prop}
theorem r1s {W : World} {base : Nat} {okp : Nat → Prop} {x : ByteArray} {xs : List ByteArray} {inner : List Value} (h : Reps (Kd.string.M W base okp) Kd.string.sz xs inner) : Reps (Kd.string.M W base okp) Kd.string.sz (x :: xs) (.string x :: inner) := Reps.one (show Kd.M Kd.string _ _ _ x [.string x] from rfl) h
theorem r1i {W : World} {base : Nat} {okp : Nat → Prop} {x : Int} {xs : List Int} {inner : List Value} (h : Reps ((Kd.int .i64).M W base okp) (Kd.int .i64).sz xs inner) : Reps ((Kd.int .i64).M W base okp) (Kd.int .i64).sz (x :: xs) (.int .i64 x :: inner) := Reps.one (show Kd.M (Kd.int .i64) _ _ _ x [.int .i64 x] from rfl) h
theorem rlit {α : Type} {rest : List Oper} {o : Oper} {a : Act} {W w0 : World} {N : Tmp} (d : Kd α) {base : Nat} (e : Nat) (xs : List α) (inner : List Value) (h : ∀ v1 w1, d.R e w1 base (fun _ => True) v1 xs → Below base w0 w1 → W.grownBy w1 none → (∃ b, v1.ownBlock = some b ∧ W.heap.size ≤ b) → wpList P ops Q rest (a.put o.dst v1) w1)
    (HB : Below base w0 W) (hbase : base ≤ W.heap.size) (hrep : Reps (d.M W base (fun _ => True)) d.sz xs inner) (hd : o.dst = some N := by rfl) (hg : o.guard = none := by rfl)
    (hrun : (execOp a.eval o).run P W = .ok (.value (.slice (some ⟨W.heap.size, 0, none⟩) xs.length xs.length)) (W.alloc (.cells inner.toArray e)) := by first | (go_simp; done) | (go_simp; rfl)) (hm : xs.length ≤ 9223372036854775807 := by simp) : wpList P ops Q (o :: rest) a W :=
  Kd.R_lit d base e hg hd hrun hrep (fun _ hk => hk) trivial HB hbase hm h
end
theorem ipe {α β : Type} [BEq β] [LawfulBEq β] {x y : β} {A B r : α} {_ : Decidable (x = y)} (c : x = y) (H : (if x = y then A else B) = r) : A = r ∧ (x == y) = true ∧ (x != y) = false := ⟨by rw [if_pos c] at H; exact H, beq_iff_eq.mpr c, bne_eq_false_iff_eq.mpr c⟩
theorem ine {α β : Type} [BEq β] [LawfulBEq β] {x y : β} {A B r : α} {_ : Decidable (x = y)} (c : ¬ x = y) (H : (if x = y then A else B) = r) : B = r ∧ (x == y) = false ∧ (x != y) = true := ⟨by rw [if_neg c] at H; exact H, beq_eq_false_iff_ne.mpr c, bne_iff_ne.mpr c⟩
theorem ift {α : Type} {A B r : α} {_ : Decidable (true = true)} (H : (if true = true then A else B) = r) : A = r := by rw [if_pos rfl] at H; exact H
theorem iff_ {α : Type} {A B r : α} {_ : Decidable (false = true)} (H : (if false = true then A else B) = r) : B = r := by rw [if_neg Bool.false_ne_true] at H; exact H
theorem oa {p q : Prop} (h : Aside0 p) (f : p → q := by intro h; first | omega | exact Nat.le_refl _) : q := f h.out
theorem ob {p p' q : Prop} (h : Aside0 p) (h' : Aside0 p') (f : p → p' → q := by intro h h'; first | omega | exact Nat.le_refl _) : q := f h.out h'.out
section
variable {α β : Type} {r : β}
theorem obe {x : Option α} {f : α → Option β} (H : x.bind f = some r) : ∃ a, Aside0 (x = some a) ∧ f a = some r := let ⟨a, h, g⟩ := Option.bind_eq_some_iff.mp H; ⟨a, ⟨h⟩, g⟩
theorem obe2 {τ0 τ1 : Type} {x : Option (τ0 × τ1)} {f : τ0 × τ1 → Option β} (H : x.bind f = some r) : ∃ v0 v1, Aside0 (x = some (v0, v1)) ∧ f (v0, v1) = some r := let ⟨(v0, v1), h, g⟩ := Option.bind_eq_some_iff.mp H; ⟨v0, v1, ⟨h⟩, g⟩
theorem obe3 {τ0 τ1 τ2 : Type} {x : Option (τ0 × τ1 × τ2)} {f : τ0 × τ1 × τ2 → Option β} (H : x.bind f = some r) : ∃ v0 v1 v2, Aside0 (x = some (v0, v1, v2)) ∧ f (v0, v1, v2) = some r := let ⟨(v0, v1, v2), h, g⟩ := Option.bind_eq_some_iff.mp H; ⟨v0, v1, v2, ⟨h⟩, g⟩
theorem obe5 {τ0 τ1 τ2 τ3 τ4 : Type} {x : Option (τ0 × τ1 × τ2 × τ3 × τ4)} {f : τ0 × τ1 × τ2 × τ3 × τ4 → Option β} (H : x.bind f = some r) : ∃ v0 v1 v2 v3 v4, Aside0 (x = some (v0, v1, v2, v3, v4)) ∧ f (v0, v1, v2, v3, v4) = some r := let ⟨(v0, v1, v2, v3, v4), h, g⟩ := Option.bind_eq_some_iff.mp H; ⟨v0, v1, v2, v3, v4, ⟨h⟩, g⟩
theorem obe6 {τ0 τ1 τ2 τ3 τ4 τ5 : Type} {x : Option (τ0 × τ1 × τ2 × τ3 × τ4 × τ5)} {f : τ0 × τ1 × τ2 × τ3 × τ4 × τ5 → Option β} (H : x.bind f = some r) : ∃ v0 v1 v2 v3 v4 v5, Aside0 (x = some (v0, v1, v2, v3, v4, v5)) ∧ f (v0, v1, v2, v3, v4, v5) = some r := let ⟨(v0, v1, v2, v3, v4, v5), h, g⟩ := Option.bind_eq_some_iff.mp H; ⟨v0, v1, v2, v3, v4, v5, ⟨h⟩, g⟩
theorem obe7 {τ0 τ1 τ2 τ3 τ4 τ5 τ6 : Type} {x : Option (τ0 × τ1 × τ2 × τ3 × τ4 × τ5 × τ6)} {f : τ0 × τ1 × τ2 × τ3 × τ4 × τ5 × τ6 → Option β} (H : x.bind f = some r) : ∃ v0 v1 v2 v3 v4 v5 v6, Aside0 (x = some (v0, v1, v2, v3, v4, v5, v6)) ∧ f (v0, v1, v2, v3, v4, v5, v6) = some r := let ⟨(v0, v1, v2, v3, v4, v5, v6), h, g⟩ := Option.bind_eq_some_iff.mp H; ⟨v0, v1, v2, v3, v4, v5, v6, ⟨h⟩, g⟩
theorem obe8 {τ0 τ1 τ2 τ3 τ4 τ5 τ6 τ7 : Type} {x : Option (τ0 × τ1 × τ2 × τ3 × τ4 × τ5 × τ6 × τ7)} {f : τ0 × τ1 × τ2 × τ3 × τ4 × τ5 × τ6 × τ7 → Option β} (H : x.bind f = some r) : ∃ v0 v1 v2 v3 v4 v5 v6 v7, Aside0 (x = some (v0, v1, v2, v3, v4, v5, v6, v7)) ∧ f (v0, v1, v2, v3, v4, v5, v6, v7) = some r := let ⟨(v0, v1, v2, v3, v4, v5, v6, v7), h, g⟩ := Option.bind_eq_some_iff.mp H; ⟨v0, v1, v2, v3, v4, v5, v6, v7, ⟨h⟩, g⟩
theorem obe10 {τ0 τ1 τ2 τ3 τ4 τ5 τ6 τ7 τ8 τ9 : Type} {x : Option (τ0 × τ1 × τ2 × τ3 × τ4 × τ5 × τ6 × τ7 × τ8 × τ9)} {f : τ0 × τ1 × τ2 × τ3 × τ4 × τ5 × τ6 × τ7 × τ8 × τ9 → Option β} (H : x.bind f = some r) : ∃ v0 v1 v2 v3 v4 v5 v6 v7 v8 v9, Aside0 (x = some (v0, v1, v2, v3, v4, v5, v6, v7, v8, v9)) ∧ f (v0, v1, v2, v3, v4, v5, v6, v7, v8, v9) = some r := let ⟨(v0, v1, v2, v3, v4, v5, v6, v7, v8, v9), h, g⟩ := Option.bind_eq_some_iff.mp H; ⟨v0, v1, v2, v3, v4, v5, v6, v7, v8, v9, ⟨h⟩, g⟩
theorem obe11 {τ0 τ1 τ2 τ3 τ4 τ5 τ6 τ7 τ8 τ9 τ10 : Type} {x : Option (τ0 × τ1 × τ2 × τ3 × τ4 × τ5 × τ6 × τ7 × τ8 × τ9 × τ10)} {f : τ0 × τ1 × τ2 × τ3 × τ4 × τ5 × τ6 × τ7 × τ8 × τ9 × τ10 → Option β} (H : x.bind f = some r) : ∃ v0 v1 v2 v3 v4 v5 v6 v7 v8 v9 v10, Aside0 (x = some (v0, v1, v2, v3, v4, v5, v6, v7, v8, v9, v10)) ∧ f (v0, v1, v2, v3, v4, v5, v6, v7, v8, v9, v10) = some r := let ⟨(v0, v1, v2, v3, v4, v5, v6, v7, v8, v9, v10), h, g⟩ := Option.bind_eq_some_iff.mp H; ⟨v0, v1, v2, v3, v4, v5, v6, v7, v8, v9, v10, ⟨h⟩, g⟩
theorem obe13 {τ0 τ1 τ2 τ3 τ4 τ5 τ6 τ7 τ8 τ9 τ10 τ11 τ12 : Type} {x : Option (τ0 × τ1 × τ2 × τ3 × τ4 × τ5 × τ6 × τ7 × τ8 × τ9 × τ10 × τ11 × τ12)} {f : τ0 × τ1 × τ2 × τ3 × τ4 × τ5 × τ6 × τ7 × τ8 × τ9 × τ10 × τ11 × τ12 → Option β} (H : x.bind f = some r) : ∃ v0 v1 v2 v3 v4 v5 v6 v7 v8 v9 v10 v11 v12, Aside0 (x = some (v0, v1, v2, v3, v4, v5, v6, v7, v8, v9, v10, v11, v12)) ∧ f (v0, v1, v2, v3, v4, v5, v6, v7, v8, v9, v10, v11, v12) = some r := let ⟨(v0, v1, v2, v3, v4, v5, v6, v7, v8, v9, v10, v11, v12), h, g⟩ := Option.bind_eq_some_iff.mp H; ⟨v0, v1, v2, v3, v4, v5, v6, v7, v8, v9, v10, v11, v12, ⟨h⟩, g⟩
end
end Go.Proofs.YtgkemhgihbfmmaaGreatDoor.PA
