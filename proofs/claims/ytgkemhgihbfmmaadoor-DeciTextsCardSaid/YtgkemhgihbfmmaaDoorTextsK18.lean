/- Part 19 of the proof for Texts: functions of the program as plain Lean functions, their calls, and what they come to. -/
import Derived.RowKit
import Derived.Laws.BitsLemmas
import Derived.Shelf.Bits.Mul64
import Derived.Test.YtgkemhgihbfmmaaDoorTextsK16
import Derived.Test.YtgkemhgihbfmmaaDoorTextsK17
import Derived.Test.YtgkemhgihbfmmaaDoorTextsK2
set_option linter.unusedVariables false
set_option linter.unusedSimpArgs false
section
namespace Go.Proofs.YtgkemhgihbfmmaaDoor.PA
open Go.RowKit Go.Proofs.YtgkemhgihbfmmaaDoorW.PrintWords Go.Proofs.YtgkemhgihbfmmaaDoorW.PrintLast Go.Proofs.YtgkemhgihbfmmaaDoorW.PrintMore
attribute [local go_sem] max2_int min2_int max_two min_two max_three min_three max_four min_four
set_option linter.unusedVariables false
set_option linter.unusedSimpArgs false
mutual
def soffitref01_dec.j2 : Nat → List Int → Int → Bool → Int → Option (Int × Int × Int)
  | 0, _, _, _, _ => none
  | k + 1, x0, x1, x2, x9 => if 0 ≤ (x0.length : Int) then (if ((x0.length : Int) : Int).toNat ≤ 35184372088832 then ((some (List.replicate ((x0.length : Int) : Int).toNat 0 : List Int)).bind fun y219 => (if 0 < (y219.length : Int) then ((soffitref01_plus.f k x0 (y219.set (0 : Int).toNat x9)).bind fun t223 => (soffitref01_dec.l1 k t223 x1 x2)) else (none))) else (none)) else (none)
def soffitref01_dec.j4 : Nat → List Int → Int → Bool → Option (Int × Int × Int)
  | 0, _, _, _ => none
  | k + 1, x0, x1, x2 => soffitref01_dec.l2 k x0 x1 x2 0 (wrap64 ((x0.length : Int) - 1))
def soffitref01_dec.l2 : Nat → List Int → Int → Bool → Int → Int → Option (Int × Int × Int)
  | 0, _, _, _, _, _ => none
  | k + 1, x0, x1, x2, x15, x16 => if x16 ≥ 0 then (if x15 > 999999999999 then (some (0, 0, 3)) else (if 0 ≤ x16 then (if x16 < (x0.length : Int) then (soffitref01_dec.l2 k x0 x1 x2 (wrap64 ((wrap64 (x15 * 10)) + (rd x0 x16))) (wrap64 (x16 - 1))) else (none)) else (none))) else (if x15 > 999999999999 then (some (0, 0, 3)) else (if x2 = true then (some (wrap64 (-x15), x1, 0)) else (some (x15, x1, 0))))
def soffitref01_dec.l1 : Nat → List Int → Int → Bool → Option (Int × Int × Int)
  | 0, _, _, _ => none
  | k + 1, x0, x1, x2 => if x1 > 0 then (if 0 < (x0.length : Int) then (if (rd x0 0) = 0 then (if 1 ≤ (x0.length : Int) then (soffitref01_dec.l1 k (x0.drop (1 : Int).toNat) (wrap64 (x1 - 1)) x2) else (none)) else (soffitref01_dec.j4 k x0 x1 x2)) else (none)) else (soffitref01_dec.j4 k x0 x1 x2)
def soffitref01_dec.l0 : Nat → List Int → Bool → Int → Int → Int → Int → Option (Int × Int × Int)
  | 0, _, _, _, _, _, _ => none
  | k + 1, x0, x2, x8, x9, x10, x11 => if x11 < (wrap64 (x8 - 1)) then (if 0 ≤ x11 then (if x11 < (x0.length : Int) then (soffitref01_dec.l0 k x0 x2 x8 x9 (wrap64 (x10 + (rd x0 x11))) (wrap64 (x11 + 1))) else (none)) else (none)) else (if 0 ≤ (wrap64 (x8 - 1)) then (if (wrap64 (x8 - 1)) < (x0.length : Int) then (if 0 ≤ x8 then (if x8 < (x0.length : Int) then (if (rd x0 (wrap64 (x8 - 1))) > 5 then (soffitref01_dec.j1 k x0 x2 x8 x9 true) else (if (rd x0 (wrap64 (x8 - 1))) = 5 then (if x10 > 0 then (soffitref01_dec.j1 k x0 x2 x8 x9 true) else (soffitref01_dec.j1 k x0 x2 x8 x9 ((Int.tmod (rd x0 x8) 2) == 1))) else (soffitref01_dec.j1 k x0 x2 x8 x9 false))) else (none)) else (none)) else (none)) else (none))
def soffitref01_dec.j1 : Nat → List Int → Bool → Int → Int → Bool → Option (Int × Int × Int)
  | 0, _, _, _, _, _ => none
  | k + 1, x0, x2, x8, x9, x56 => if x56 = true then (if 0 ≤ x8 then (if x8 ≤ (x0.length : Int) then (soffitref01_dec.j2 k (x0.drop (x8 : Int).toNat) 6 x2 1) else (none)) else (none)) else (if 0 ≤ x8 then (if x8 ≤ (x0.length : Int) then (soffitref01_dec.j2 k (x0.drop (x8 : Int).toNat) 6 x2 x9) else (none)) else (none))
end
def soffitref01_dec.f (k : Nat) (l0 : List Int) (a1 : Int) (a2 : Bool) : Option (Int × Int × Int) := if (wrap64 (a1 - 6)) > 0 then (soffitref01_dec.l0 k l0 a2 (wrap64 (a1 - 6)) 0 0 0) else (soffitref01_dec.j2 k l0 a1 a2 0)
theorem soffitref01_dec.mono_l : ∀ k, (∀ y0 y1 y2 y3, LeO (soffitref01_dec.j2 k y0 y1 y2 y3) (soffitref01_dec.j2 (k + 1) y0 y1 y2 y3)) ∧ (∀ y0 y1 y2, LeO (soffitref01_dec.j4 k y0 y1 y2) (soffitref01_dec.j4 (k + 1) y0 y1 y2)) ∧ (∀ y0 y1 y2 y3 y4, LeO (soffitref01_dec.l2 k y0 y1 y2 y3 y4) (soffitref01_dec.l2 (k + 1) y0 y1 y2 y3 y4)) ∧ (∀ y0 y1 y2, LeO (soffitref01_dec.l1 k y0 y1 y2) (soffitref01_dec.l1 (k + 1) y0 y1 y2)) ∧ (∀ y0 y1 y2 y3 y4 y5, LeO (soffitref01_dec.l0 k y0 y1 y2 y3 y4 y5) (soffitref01_dec.l0 (k + 1) y0 y1 y2 y3 y4 y5)) ∧ (∀ y0 y1 y2 y3 y4, LeO (soffitref01_dec.j1 k y0 y1 y2 y3 y4) (soffitref01_dec.j1 (k + 1) y0 y1 y2 y3 y4))
  | 0 => ⟨fun _ _ _ _ r h => by simp [soffitref01_dec.j2] at h, fun _ _ _ r h => by simp [soffitref01_dec.j4] at h, fun _ _ _ _ _ r h => by simp [soffitref01_dec.l2] at h, fun _ _ _ r h => by simp [soffitref01_dec.l1] at h, fun _ _ _ _ _ _ r h => by simp [soffitref01_dec.l0] at h, fun _ _ _ _ _ r h => by simp [soffitref01_dec.j1] at h⟩
  | k + 1 => by
    obtain ⟨ih0, ih1, ih2, ih3, ih4, ih5⟩ := soffitref01_dec.mono_l k
    refine ⟨?_, ?_, ?_, ?_, ?_, ?_⟩
    · intro y0 y1 y2 y3
      unfold soffitref01_dec.j2
      repeat' first
      | (with_reducible exact ih0 _ _ _ _)
      | (with_reducible exact ih1 _ _ _)
      | (with_reducible exact ih2 _ _ _ _ _)
      | (with_reducible exact ih3 _ _ _)
      | (with_reducible exact ih4 _ _ _ _ _ _)
      | (with_reducible exact ih5 _ _ _ _ _)
      | (with_reducible exact soffitref01_plus.mono _ _ _)
      | (with_reducible exact LeO.refl _)
      | (with_reducible exact LeO.none _)
      | (with_reducible refine LeO.ite ?_ ?_)
      | (with_reducible refine LeO.bind ?_ (fun _ => ?_))
      | exact ih0 _ _ _ _
      | exact ih1 _ _ _
      | exact ih2 _ _ _ _ _
      | exact ih3 _ _ _
      | exact ih4 _ _ _ _ _ _
      | exact ih5 _ _ _ _ _
      | exact soffitref01_plus.mono _ _ _
      | exact LeO.none _
      | refine LeO.ite ?_ ?_
      | refine LeO.bind ?_ (fun _ => ?_)
    · intro y0 y1 y2
      unfold soffitref01_dec.j4
      repeat' first
      | (with_reducible exact ih0 _ _ _ _)
      | (with_reducible exact ih1 _ _ _)
      | (with_reducible exact ih2 _ _ _ _ _)
      | (with_reducible exact ih3 _ _ _)
      | (with_reducible exact ih4 _ _ _ _ _ _)
      | (with_reducible exact ih5 _ _ _ _ _)
      | (with_reducible exact soffitref01_plus.mono _ _ _)
      | (with_reducible exact LeO.refl _)
      | (with_reducible exact LeO.none _)
      | (with_reducible refine LeO.ite ?_ ?_)
      | (with_reducible refine LeO.bind ?_ (fun _ => ?_))
      | exact ih0 _ _ _ _
      | exact ih1 _ _ _
      | exact ih2 _ _ _ _ _
      | exact ih3 _ _ _
      | exact ih4 _ _ _ _ _ _
      | exact ih5 _ _ _ _ _
      | exact soffitref01_plus.mono _ _ _
      | exact LeO.none _
      | refine LeO.ite ?_ ?_
      | refine LeO.bind ?_ (fun _ => ?_)
    · intro y0 y1 y2 y3 y4
      unfold soffitref01_dec.l2
      repeat' first
      | (with_reducible exact ih0 _ _ _ _)
      | (with_reducible exact ih1 _ _ _)
      | (with_reducible exact ih2 _ _ _ _ _)
      | (with_reducible exact ih3 _ _ _)
      | (with_reducible exact ih4 _ _ _ _ _ _)
      | (with_reducible exact ih5 _ _ _ _ _)
      | (with_reducible exact soffitref01_plus.mono _ _ _)
      | (with_reducible exact LeO.refl _)
      | (with_reducible exact LeO.none _)
      | (with_reducible refine LeO.ite ?_ ?_)
      | (with_reducible refine LeO.bind ?_ (fun _ => ?_))
      | exact ih0 _ _ _ _
      | exact ih1 _ _ _
      | exact ih2 _ _ _ _ _
      | exact ih3 _ _ _
      | exact ih4 _ _ _ _ _ _
      | exact ih5 _ _ _ _ _
      | exact soffitref01_plus.mono _ _ _
      | exact LeO.none _
      | refine LeO.ite ?_ ?_
      | refine LeO.bind ?_ (fun _ => ?_)
    · intro y0 y1 y2
      unfold soffitref01_dec.l1
      repeat' first
      | (with_reducible exact ih0 _ _ _ _)
      | (with_reducible exact ih1 _ _ _)
      | (with_reducible exact ih2 _ _ _ _ _)
      | (with_reducible exact ih3 _ _ _)
      | (with_reducible exact ih4 _ _ _ _ _ _)
      | (with_reducible exact ih5 _ _ _ _ _)
      | (with_reducible exact soffitref01_plus.mono _ _ _)
      | (with_reducible exact LeO.refl _)
      | (with_reducible exact LeO.none _)
      | (with_reducible refine LeO.ite ?_ ?_)
      | (with_reducible refine LeO.bind ?_ (fun _ => ?_))
      | exact ih0 _ _ _ _
      | exact ih1 _ _ _
      | exact ih2 _ _ _ _ _
      | exact ih3 _ _ _
      | exact ih4 _ _ _ _ _ _
      | exact ih5 _ _ _ _ _
      | exact soffitref01_plus.mono _ _ _
      | exact LeO.none _
      | refine LeO.ite ?_ ?_
      | refine LeO.bind ?_ (fun _ => ?_)
    · intro y0 y1 y2 y3 y4 y5
      unfold soffitref01_dec.l0
      repeat' first
      | (with_reducible exact ih0 _ _ _ _)
      | (with_reducible exact ih1 _ _ _)
      | (with_reducible exact ih2 _ _ _ _ _)
      | (with_reducible exact ih3 _ _ _)
      | (with_reducible exact ih4 _ _ _ _ _ _)
      | (with_reducible exact ih5 _ _ _ _ _)
      | (with_reducible exact soffitref01_plus.mono _ _ _)
      | (with_reducible exact LeO.refl _)
      | (with_reducible exact LeO.none _)
      | (with_reducible refine LeO.ite ?_ ?_)
      | (with_reducible refine LeO.bind ?_ (fun _ => ?_))
      | exact ih0 _ _ _ _
      | exact ih1 _ _ _
      | exact ih2 _ _ _ _ _
      | exact ih3 _ _ _
      | exact ih4 _ _ _ _ _ _
      | exact ih5 _ _ _ _ _
      | exact soffitref01_plus.mono _ _ _
      | exact LeO.none _
      | refine LeO.ite ?_ ?_
      | refine LeO.bind ?_ (fun _ => ?_)
    · intro y0 y1 y2 y3 y4
      unfold soffitref01_dec.j1
      repeat' first
      | (with_reducible exact ih0 _ _ _ _)
      | (with_reducible exact ih1 _ _ _)
      | (with_reducible exact ih2 _ _ _ _ _)
      | (with_reducible exact ih3 _ _ _)
      | (with_reducible exact ih4 _ _ _ _ _ _)
      | (with_reducible exact ih5 _ _ _ _ _)
      | (with_reducible exact soffitref01_plus.mono _ _ _)
      | (with_reducible exact LeO.refl _)
      | (with_reducible exact LeO.none _)
      | (with_reducible refine LeO.ite ?_ ?_)
      | (with_reducible refine LeO.bind ?_ (fun _ => ?_))
      | exact ih0 _ _ _ _
      | exact ih1 _ _ _
      | exact ih2 _ _ _ _ _
      | exact ih3 _ _ _
      | exact ih4 _ _ _ _ _ _
      | exact ih5 _ _ _ _ _
      | exact soffitref01_plus.mono _ _ _
      | exact LeO.none _
      | refine LeO.ite ?_ ?_
      | refine LeO.bind ?_ (fun _ => ?_)
theorem soffitref01_dec.mono : ∀ a0 a1 a2 k, LeO (soffitref01_dec.f k a0 a1 a2) (soffitref01_dec.f (k + 1) a0 a1 a2) := by
  intro a0 a1 a2 k
  obtain ⟨ih0, ih1, ih2, ih3, ih4, ih5⟩ := soffitref01_dec.mono_l k
  unfold soffitref01_dec.f
  repeat' first
      | (with_reducible exact ih0 _ _ _ _)
      | (with_reducible exact ih1 _ _ _)
      | (with_reducible exact ih2 _ _ _ _ _)
      | (with_reducible exact ih3 _ _ _)
      | (with_reducible exact ih4 _ _ _ _ _ _)
      | (with_reducible exact ih5 _ _ _ _ _)
      | (with_reducible exact soffitref01_plus.mono _ _ _)
      | (with_reducible exact LeO.refl _)
      | (with_reducible exact LeO.none _)
      | (with_reducible refine LeO.ite ?_ ?_)
      | (with_reducible refine LeO.bind ?_ (fun _ => ?_))
      | exact ih0 _ _ _ _
      | exact ih1 _ _ _
      | exact ih2 _ _ _ _ _
      | exact ih3 _ _ _
      | exact ih4 _ _ _ _ _ _
      | exact ih5 _ _ _ _ _
      | exact soffitref01_plus.mono _ _ _
      | exact LeO.none _
      | refine LeO.ite ?_ ?_
      | refine LeO.bind ?_ (fun _ => ?_)
set_option maxHeartbeats 8000000 in
set_option maxRecDepth 100000 in
theorem soffitref01_dec.calls (k : Nat) (P0_ : Nat → Prop) (A0 : Option Addr) (c0 : Nat) (l0 : List Int) (a1 : Int) (a2 : Bool) (r1 : Int) (r2 : Int) (r3 : Int) (w : World) (hs0 : Kd.V (Kd.int .i64) 3 w w.heap.size (fun k_ => P0_ k_) (.slice A0 l0.length c0) l0) (h : soffitref01_dec.f k l0 a1 a2 = some (r1, r2, r3)) :
    Calls Tryd.prog 34 #[.slice A0 l0.length c0, .int .i64 a1, .bool a2] w fun e w' => e = .returned (.tuple #[.agg #[.int .i64 r1, .int .i64 r2], .int .i64 r3]) ∧ Below w.heap.size w w' := by
  have hu23 := Tryd.underlying23
  have HO0 := Aside0.mk (show Kd.V (Kd.int .i64) 3 w w.heap.size (fun k_ => (P0_ k_ ∨ w.heap.size ≤ k_)) (.slice A0 l0.length c0) l0 from Kd.V_mono hs0 (fun k_ hk => .inl hk))
  have HB := Aside0.mk (Below.refl w.heap.size w)
  have H : (if (wrap64 (a1 - 6)) > 0 then (soffitref01_dec.l0 k l0 a2 (wrap64 (a1 - 6)) 0 0 0) else (soffitref01_dec.j2 k l0 a1 a2 0)) = some (r1, r2, r3) := h
  clear h
  have HC4 := Aside0.mk H
  clear H
  go_enter Tryd.func34, Tryd.ntmps34
  go_upto_if 20 with (first | ((with_reducible refine gate_dst (N := 6) rfl ?_); refine box_event ?hg (N := 6) ?hd (cs := #[.int .i64 0, .int .i64 0]) (t := 23) ?hr ?_; (case hd => rfl); (case hg => rfl); (case hr => first | (go_simp; done) | (go_simp; rfl)); intro gb205 hg w5 hbox hb; have n0_ := Aside0.mk (Kd.V_below (Kd.V_elderB (by (with_reducible repeat (first | apply Kd.V_alloc | apply Kd.V_drewN | apply Kd.V_drew)); exact HO0.out) gb205 (Nat.le_of_eq hg.symm)) hb); have n1_ := Aside0.mk (below_step (by repeat (first | (with_reducible first | exact HB.out | apply below_alloc | apply pw_below_drewN | apply below_drew1) | exact HB.out)) hb); have n2_ := Aside0.mk (hbox); have n3_ := Aside0.mk ((by rw [hg]; exact (below_size (by repeat (first | (with_reducible first | exact HB.out | apply below_alloc | apply pw_below_drewN | apply below_drew1) | exact HB.out))) : w.heap.size ≤ gb205)); have n4_ := Aside0.mk ((by rw [hg]; exact (below_size (by repeat (first | (with_reducible first | exact HB.out | apply below_alloc | apply pw_below_drewN | apply below_drew1) | exact HB.out))) : w.heap.size ≤ gb205)); clear HO0; clear HB; have HO0 := n0_; have HB := n1_; have BK205 := n2_; have GW205 := n3_; have GE205 := n4_; clear n0_ n1_ n2_ n3_ n4_; clear hb hbox hg))
  (try simp only [Act.put, List.setIfInBounds_toArray, List.set_cons_zero, List.set_cons_succ])
  go_cut [0, 1, 9] (fun v0 v1 v9 wc => ∃ (kq : Nat) (x0_3 : List Int) (x1_3 : Int) (x9_3 : Int), v1 = .int .i64 x1_3 ∧ v9 = .int .i64 x9_3 ∧ Aside0 (soffitref01_dec.j2 kq x0_3 x1_3 a2 x9_3 = some (r1, r2, r3)) ∧ Aside0 (kq ≤ k) ∧ Aside0 (Kd.V (Kd.int .i64) 3 wc w.heap.size (fun k_ => (P0_ k_ ∨ w.heap.size ≤ k_) ∧ k_ ≠ gb205) v0 x0_3) ∧ Aside0 (wc.heap[gb205]? = some (.cells #[.int .i64 0, .int .i64 0] 23 (0, 0))) ∧ Aside0 (Below w.heap.size w wc))
  case first =>
    have H := HC4.out
    clear HC4
    by_cases c6 : (wrap64 (a1 - 6)) > 0
    · rw [if_pos c6] at H
      have c6b0 : decide (0 < (wrap64 (a1 - 6))) = true := decide_eq_true c6
      clear c6
      (first | rw [c6b0] | (simp only [i64_w, i32_w]; rw [c6b0]) | skip)
      have H' := Aside0.mk H
      clear H
      go_wp2
      (try simp only [Act.put, List.setIfInBounds_toArray, List.set_cons_succ, List.set_cons_zero])
      go_loopg [10, 11] k (fun kq v10 v11 w' => ∃ (x10_1 : Int) (x11_1 : Int), v10 = .int .i64 x10_1 ∧ v11 = .int .i64 x11_1 ∧ Aside0 (soffitref01_dec.l0 kq l0 a2 (wrap64 (a1 - 6)) 0 x10_1 x11_1 = some (r1, r2, r3)) ∧ Aside0 (kq ≤ k) ∧ Aside0 (Kd.V (Kd.int .i64) 3 w' w.heap.size (fun k_ => (P0_ k_ ∨ w.heap.size ≤ k_) ∧ k_ ≠ gb205) (.slice A0 l0.length c0) l0) ∧ Aside0 (w'.heap[gb205]? = some (.cells #[.int .i64 0, .int .i64 0] 23 (0, 0))) ∧ Aside0 (Below w.heap.size w w'))
      case atStart => exact ⟨(0), (0), (by first | rfl | (simp; done) | (simp [*]; done)), (by first | rfl | (simp; done) | (simp [*]; done)), H', ⟨Nat.le_refl _⟩, ⟨by (with_reducible repeat (first | apply Kd.V_alloc | apply Kd.V_drewN | apply Kd.V_drew)); exact HO0.out⟩, ⟨by (with_reducible repeat (first | refine blk_drewN ?_ _ | refine blk_drew ?_ | refine blk_alloc ?_ _)); exact BK205.out⟩, ⟨by repeat (first | (with_reducible first | exact HB.out | apply below_alloc | apply pw_below_drewN | apply below_drew1 | refine below_set ?_ GE205.out) | exact HB.out)⟩⟩
      case round =>
        clear H'
        try clear p2
        try clear c3
        try clear c6
        try clear c6b0
        try clear p6
        obtain ⟨x10_1, x11_1, rfl, rfl, HA, HK1, HO_0, BK205, HB⟩ := hrel
        cases gk with
        | zero => exact absurd HA.out (by simp [soffitref01_dec.l0])
        | succ k1 =>
          have H := HA.out
          clear HA
          simp only [soffitref01_dec.l0] at H
          by_cases c7 : x11_1 < (wrap64 ((wrap64 (a1 - 6)) - 1))
          · rw [if_pos c7] at H
            have c7b0 : decide (x11_1 < (wrap64 ((wrap64 (a1 - 6)) - 1))) = true := decide_eq_true c7
            clear c7
            by_cases c8 : 0 ≤ x11_1
            · rw [if_pos c8] at H
              have c8b0 : decide (0 ≤ x11_1) = true := decide_eq_true c8
              clear c8
              by_cases c9 : x11_1 < (l0.length : Int)
              · rw [if_pos c9] at H
                have c9b0 : decide (x11_1 < (l0.length : Int)) = true := decide_eq_true c9
                clear c9
                have H' := Aside0.mk H
                clear H
                have p206 : 0 ≤ (x11_1 : Int) := of_decide_eq_true (by first | (with_reducible assumption) | assumption)
                have q206 : x11_1 < (l0.length : Int) := of_decide_eq_true (by first | (with_reducible assumption) | assumption)
                obtain ⟨ad206, e206, hx206_0⟩ := Kd.at_int (Kd.V_reads' HO_0.out).2.2 x11_1 p206 q206
                cases e206
                replace p206 := eq_true p206
                replace q206 := eq_true q206
                go_wp2
                go_roundg k1
                case measure => have := HK1.out; omega
                case rel => exact ⟨(wrap64 (x10_1 + (rd l0 x11_1))), (wrap64 (x11_1 + 1)), (by first | rfl | (simp; done) | (simp [*]; done)), (by first | rfl | (simp; done) | (simp [*]; done)), H', ⟨by have := HK1.out; omega⟩, ⟨by (with_reducible repeat (first | apply Kd.V_alloc | apply Kd.V_drewN | apply Kd.V_drew)); exact HO_0.out⟩, ⟨by (with_reducible repeat (first | refine blk_drewN ?_ _ | refine blk_drew ?_ | refine blk_alloc ?_ _)); exact BK205.out⟩, ⟨by repeat (first | (with_reducible first | exact HB.out | apply below_alloc | apply pw_below_drewN | apply below_drew1 | refine below_set ?_ GE205.out) | exact HB.out)⟩⟩
              · rw [if_neg c9] at H
                exact absurd H (by simp)
            · rw [if_neg c8] at H
              exact absurd H (by simp)
          · rw [if_neg c7] at H
            have c7b0 : decide (x11_1 < (wrap64 ((wrap64 (a1 - 6)) - 1))) = false := decide_eq_false c7
            clear c7
            obtain ⟨ji10, hji10⟩ : ∃ j_ : Int, (wrap64 ((wrap64 (a1 - 6)) - 1)) = j_ := ⟨_, rfl⟩
            replace H : (if 0 ≤ (ji10) then (if (ji10) < (l0.length : Int) then (if 0 ≤ (wrap64 (a1 - 6)) then (if (wrap64 (a1 - 6)) < (l0.length : Int) then (if (rd l0 (ji10)) > 5 then (soffitref01_dec.j1 k1 l0 a2 (wrap64 (a1 - 6)) 0 true) else (if (rd l0 (ji10)) = 5 then (if x10_1 > 0 then (soffitref01_dec.j1 k1 l0 a2 (wrap64 (a1 - 6)) 0 true) else (soffitref01_dec.j1 k1 l0 a2 (wrap64 (a1 - 6)) 0 ((Int.tmod (rd l0 (wrap64 (a1 - 6))) 2) == 1))) else (soffitref01_dec.j1 k1 l0 a2 (wrap64 (a1 - 6)) 0 false))) else (none)) else (none)) else (none)) else (none)) = some (r1, r2, r3) := by first | (rw [hji10] at H; exact H) | (simp only [hji10] at H ⊢; exact H)
            (try rw [hji10] at c7b0)
            have hji10w : (IntKind.i64.wrap ((wrap64 (a1 - 6)) - 1)) = ji10 := (i64_w _).trans hji10
            by_cases c11 : 0 ≤ (ji10)
            · rw [if_pos c11] at H
              have c11b0 : decide (0 ≤ (ji10)) = true := decide_eq_true c11
              clear c11
              by_cases c12 : (ji10) < (l0.length : Int)
              · rw [if_pos c12] at H
                have c12b0 : decide ((ji10) < (l0.length : Int)) = true := decide_eq_true c12
                clear c12
                obtain ⟨ji13, hji13⟩ : ∃ j_ : Int, (wrap64 (a1 - 6)) = j_ := ⟨_, rfl⟩
                replace H : (if 0 ≤ (ji13) then (if (ji13) < (l0.length : Int) then (if (rd l0 (ji10)) > 5 then (soffitref01_dec.j1 k1 l0 a2 (ji13) 0 true) else (if (rd l0 (ji10)) = 5 then (if x10_1 > 0 then (soffitref01_dec.j1 k1 l0 a2 (ji13) 0 true) else (soffitref01_dec.j1 k1 l0 a2 (ji13) 0 ((Int.tmod (rd l0 (ji13)) 2) == 1))) else (soffitref01_dec.j1 k1 l0 a2 (ji13) 0 false))) else (none)) else (none)) = some (r1, r2, r3) := by first | (rw [hji13] at H; exact H) | (simp only [hji13] at H ⊢; exact H)
                (try rw [hji13] at c6b0)
                (try rw [hji13] at c7b0)
                have hji13w : (IntKind.i64.wrap (a1 - 6)) = ji13 := (i64_w _).trans hji13
                (try (have hji10_13 := hji10; rw [hji13] at hji10_13)); (try (have hji10w_13 := hji10w; rw [hji13] at hji10w_13))
                by_cases c14 : 0 ≤ (ji13)
                · rw [if_pos c14] at H
                  have c14b0 : decide (0 ≤ (ji13)) = true := decide_eq_true c14
                  clear c14
                  by_cases c15 : (ji13) < (l0.length : Int)
                  · rw [if_pos c15] at H
                    have c15b0 : decide ((ji13) < (l0.length : Int)) = true := decide_eq_true c15
                    clear c15
                    have HC16 := Aside0.mk H
                    clear H
                    have p207 : 0 ≤ ((ji10) : Int) := of_decide_eq_true (by first | (with_reducible assumption) | assumption)
                    have q207 : (ji10) < (l0.length : Int) := of_decide_eq_true (by first | (with_reducible assumption) | assumption)
                    obtain ⟨ad207, e207, hx207_0⟩ := Kd.at_int (Kd.V_reads' HO_0.out).2.2 (ji10) p207 q207
                    cases e207
                    replace p207 := eq_true p207
                    replace q207 := eq_true q207
                    have p208 : 0 ≤ ((ji13) : Int) := of_decide_eq_true (by first | (with_reducible assumption) | assumption)
                    have q208 : (ji13) < (l0.length : Int) := of_decide_eq_true (by first | (with_reducible assumption) | assumption)
                    obtain ⟨ad208, e208, hx208_0⟩ := Kd.at_int (Kd.V_reads' HO_0.out).2.2 (ji13) p208 q208
                    obtain rfl : ad207 = ad208 := (by injection e208)
                    replace p208 := eq_true p208
                    replace q208 := eq_true q208
                    go_upto_region 11 with (fail)
                    go_cut [56] (fun v56 wc => ∃ (kq : Nat) (x56_15 : Bool), v56 = .bool x56_15 ∧ Aside0 (soffitref01_dec.j1 kq l0 a2 (ji13) 0 x56_15 = some (r1, r2, r3)) ∧ Aside0 (kq ≤ k1) ∧ Aside0 (Kd.V (Kd.int .i64) 3 wc w.heap.size (fun k_ => (P0_ k_ ∨ w.heap.size ≤ k_) ∧ k_ ≠ gb205) (.slice (some ad207) l0.length c0) l0) ∧ Aside0 (wc.heap[gb205]? = some (.cells #[.int .i64 0, .int .i64 0] 23 (0, 0))) ∧ Aside0 (Below w.heap.size w wc))
                    case first =>
                      have H := HC16.out
                      clear HC16
                      by_cases c17 : (rd l0 (ji10)) > 5
                      · rw [if_pos c17] at H
                        have c17b0 : decide (5 < (rd l0 (ji10))) = true := decide_eq_true c17
                        clear c17
                        (first | rw [c17b0] | (simp only [i64_w, i32_w]; rw [c17b0]) | skip)
                        have H' := Aside0.mk H
                        clear H
                        go_wp2
                        first | (go_meet; (case rel => exact ⟨_, (true), (by first | rfl | (simp; done) | (simp [*]; done)), H', ⟨by have := HK1.out; first | omega | exact Nat.le_refl _⟩, ⟨by (with_reducible repeat (first | apply Kd.V_alloc | apply Kd.V_drewN | apply Kd.V_drew)); exact HO_0.out⟩, ⟨by (with_reducible repeat (first | refine blk_drewN ?_ _ | refine blk_drew ?_ | refine blk_alloc ?_ _)); exact BK205.out⟩, ⟨by repeat (first | (with_reducible first | exact HB.out | apply below_alloc | apply pw_below_drewN | apply below_drew1 | refine below_set ?_ GE205.out) | exact HB.out)⟩⟩)) | (subst hji13; go_meet; (case rel => exact ⟨_, (true), (by first | rfl | (simp; done) | (simp [*]; done)), H', ⟨by have := HK1.out; first | omega | exact Nat.le_refl _⟩, ⟨by (with_reducible repeat (first | apply Kd.V_alloc | apply Kd.V_drewN | apply Kd.V_drew)); exact HO_0.out⟩, ⟨by (with_reducible repeat (first | refine blk_drewN ?_ _ | refine blk_drew ?_ | refine blk_alloc ?_ _)); exact BK205.out⟩, ⟨by repeat (first | (with_reducible first | exact HB.out | apply below_alloc | apply pw_below_drewN | apply below_drew1 | refine below_set ?_ GE205.out) | exact HB.out)⟩⟩)) | (subst hji10; go_meet; (case rel => exact ⟨_, (true), (by first | rfl | (simp; done) | (simp [*]; done)), H', ⟨by have := HK1.out; first | omega | exact Nat.le_refl _⟩, ⟨by (with_reducible repeat (first | apply Kd.V_alloc | apply Kd.V_drewN | apply Kd.V_drew)); exact HO_0.out⟩, ⟨by (with_reducible repeat (first | refine blk_drewN ?_ _ | refine blk_drew ?_ | refine blk_alloc ?_ _)); exact BK205.out⟩, ⟨by repeat (first | (with_reducible first | exact HB.out | apply below_alloc | apply pw_below_drewN | apply below_drew1 | refine below_set ?_ GE205.out) | exact HB.out)⟩⟩))
                      · rw [if_neg c17] at H
                        have c17b0 : decide (5 < (rd l0 (ji10))) = false := decide_eq_false c17
                        clear c17
                        (first | rw [c17b0] | (simp only [i64_w, i32_w]; rw [c17b0]) | skip)
                        by_cases c18 : (rd l0 (ji10)) = 5
                        · rw [if_pos c18] at H
                          have c18b0 : ((rd l0 (ji10)) == 5) = true := beq_iff_eq.mpr c18
                          have c18b1 : ((rd l0 (ji10)) != 5) = false := bne_eq_false_iff_eq.mpr c18
                          clear c18
                          by_cases c19 : x10_1 > 0
                          · rw [if_pos c19] at H
                            have c19b0 : decide (0 < x10_1) = true := decide_eq_true c19
                            clear c19
                            have H' := Aside0.mk H
                            clear H
                            go_wp2
                            first | (go_meet; (case rel => exact ⟨_, (true), (by first | rfl | (simp; done) | (simp [*]; done)), H', ⟨by have := HK1.out; first | omega | exact Nat.le_refl _⟩, ⟨by (with_reducible repeat (first | apply Kd.V_alloc | apply Kd.V_drewN | apply Kd.V_drew)); exact HO_0.out⟩, ⟨by (with_reducible repeat (first | refine blk_drewN ?_ _ | refine blk_drew ?_ | refine blk_alloc ?_ _)); exact BK205.out⟩, ⟨by repeat (first | (with_reducible first | exact HB.out | apply below_alloc | apply pw_below_drewN | apply below_drew1 | refine below_set ?_ GE205.out) | exact HB.out)⟩⟩)) | (subst hji13; go_meet; (case rel => exact ⟨_, (true), (by first | rfl | (simp; done) | (simp [*]; done)), H', ⟨by have := HK1.out; first | omega | exact Nat.le_refl _⟩, ⟨by (with_reducible repeat (first | apply Kd.V_alloc | apply Kd.V_drewN | apply Kd.V_drew)); exact HO_0.out⟩, ⟨by (with_reducible repeat (first | refine blk_drewN ?_ _ | refine blk_drew ?_ | refine blk_alloc ?_ _)); exact BK205.out⟩, ⟨by repeat (first | (with_reducible first | exact HB.out | apply below_alloc | apply pw_below_drewN | apply below_drew1 | refine below_set ?_ GE205.out) | exact HB.out)⟩⟩)) | (subst hji10; go_meet; (case rel => exact ⟨_, (true), (by first | rfl | (simp; done) | (simp [*]; done)), H', ⟨by have := HK1.out; first | omega | exact Nat.le_refl _⟩, ⟨by (with_reducible repeat (first | apply Kd.V_alloc | apply Kd.V_drewN | apply Kd.V_drew)); exact HO_0.out⟩, ⟨by (with_reducible repeat (first | refine blk_drewN ?_ _ | refine blk_drew ?_ | refine blk_alloc ?_ _)); exact BK205.out⟩, ⟨by repeat (first | (with_reducible first | exact HB.out | apply below_alloc | apply pw_below_drewN | apply below_drew1 | refine below_set ?_ GE205.out) | exact HB.out)⟩⟩))
                          · rw [if_neg c19] at H
                            have c19b0 : decide (0 < x10_1) = false := decide_eq_false c19
                            clear c19
                            have H' := Aside0.mk H
                            clear H
                            go_wp2
                            first | (go_meet; (case rel => exact ⟨_, (((Int.tmod (rd l0 (ji13)) 2) == 1)), (by first | rfl | (simp; done) | (simp only [← hji13] <;> (first | rfl | simp)) | (simp [*]; done)), H', ⟨by have := HK1.out; first | omega | exact Nat.le_refl _⟩, ⟨by (with_reducible repeat (first | apply Kd.V_alloc | apply Kd.V_drewN | apply Kd.V_drew)); exact HO_0.out⟩, ⟨by (with_reducible repeat (first | refine blk_drewN ?_ _ | refine blk_drew ?_ | refine blk_alloc ?_ _)); exact BK205.out⟩, ⟨by repeat (first | (with_reducible first | exact HB.out | apply below_alloc | apply pw_below_drewN | apply below_drew1 | refine below_set ?_ GE205.out) | exact HB.out)⟩⟩)) | (subst hji13; go_meet; (case rel => exact ⟨_, (((Int.tmod (rd l0 ((wrap64 (a1 - 6)))) 2) == 1)), (by first | rfl | (simp; done) | (simp only [← Nat.add_zero] <;> (first | rfl | simp)) | (simp [*]; done)), H', ⟨by have := HK1.out; first | omega | exact Nat.le_refl _⟩, ⟨by (with_reducible repeat (first | apply Kd.V_alloc | apply Kd.V_drewN | apply Kd.V_drew)); exact HO_0.out⟩, ⟨by (with_reducible repeat (first | refine blk_drewN ?_ _ | refine blk_drew ?_ | refine blk_alloc ?_ _)); exact BK205.out⟩, ⟨by repeat (first | (with_reducible first | exact HB.out | apply below_alloc | apply pw_below_drewN | apply below_drew1 | refine below_set ?_ GE205.out) | exact HB.out)⟩⟩)) | (subst hji10; go_meet; (case rel => exact ⟨_, (((Int.tmod (rd l0 (ji13)) 2) == 1)), (by first | rfl | (simp; done) | (simp only [← hji13] <;> (first | rfl | simp)) | (simp [*]; done)), H', ⟨by have := HK1.out; first | omega | exact Nat.le_refl _⟩, ⟨by (with_reducible repeat (first | apply Kd.V_alloc | apply Kd.V_drewN | apply Kd.V_drew)); exact HO_0.out⟩, ⟨by (with_reducible repeat (first | refine blk_drewN ?_ _ | refine blk_drew ?_ | refine blk_alloc ?_ _)); exact BK205.out⟩, ⟨by repeat (first | (with_reducible first | exact HB.out | apply below_alloc | apply pw_below_drewN | apply below_drew1 | refine below_set ?_ GE205.out) | exact HB.out)⟩⟩))
                        · rw [if_neg c18] at H
                          have c18b0 : ((rd l0 (ji10)) == 5) = false := beq_eq_false_iff_ne.mpr c18
                          have c18b1 : ((rd l0 (ji10)) != 5) = true := bne_iff_ne.mpr c18
                          have H' := Aside0.mk H
                          clear H
                          go_wp2
                          first | (go_meet; (case rel => exact ⟨_, (false), (by first | rfl | (simp; done) | (simp [*]; done)), H', ⟨by have := HK1.out; first | omega | exact Nat.le_refl _⟩, ⟨by (with_reducible repeat (first | apply Kd.V_alloc | apply Kd.V_drewN | apply Kd.V_drew)); exact HO_0.out⟩, ⟨by (with_reducible repeat (first | refine blk_drewN ?_ _ | refine blk_drew ?_ | refine blk_alloc ?_ _)); exact BK205.out⟩, ⟨by repeat (first | (with_reducible first | exact HB.out | apply below_alloc | apply pw_below_drewN | apply below_drew1 | refine below_set ?_ GE205.out) | exact HB.out)⟩⟩)) | (subst hji13; go_meet; (case rel => exact ⟨_, (false), (by first | rfl | (simp; done) | (simp [*]; done)), H', ⟨by have := HK1.out; first | omega | exact Nat.le_refl _⟩, ⟨by (with_reducible repeat (first | apply Kd.V_alloc | apply Kd.V_drewN | apply Kd.V_drew)); exact HO_0.out⟩, ⟨by (with_reducible repeat (first | refine blk_drewN ?_ _ | refine blk_drew ?_ | refine blk_alloc ?_ _)); exact BK205.out⟩, ⟨by repeat (first | (with_reducible first | exact HB.out | apply below_alloc | apply pw_below_drewN | apply below_drew1 | refine below_set ?_ GE205.out) | exact HB.out)⟩⟩)) | (subst hji10; go_meet; (case rel => exact ⟨_, (false), (by first | rfl | (simp; done) | (simp [*]; done)), H', ⟨by have := HK1.out; first | omega | exact Nat.le_refl _⟩, ⟨by (with_reducible repeat (first | apply Kd.V_alloc | apply Kd.V_drewN | apply Kd.V_drew)); exact HO_0.out⟩, ⟨by (with_reducible repeat (first | refine blk_drewN ?_ _ | refine blk_drew ?_ | refine blk_alloc ?_ _)); exact BK205.out⟩, ⟨by repeat (first | (with_reducible first | exact HB.out | apply below_alloc | apply pw_below_drewN | apply below_drew1 | refine below_set ?_ GE205.out) | exact HB.out)⟩⟩))
                    case rest =>
                      clear HC16
                      try clear c1
                      try clear p2
                      try clear q2
                      try clear hx2
                      try clear c3
                      try clear c6
                      try clear c6b0
                      try clear p6
                      try clear c7
                      try clear c7b0
                      try clear c8
                      try clear c8b0
                      try clear c9
                      try clear c9b0
                      try clear c11
                      try clear c11b0
                      try clear c12
                      try clear c12b0
                      try clear c14
                      try clear c14b0
                      try clear c15
                      try clear c15b0
                      try clear c17
                      try clear c17b0
                      try clear c18
                      try clear c18b0
                      try clear c18b1
                      try clear c19
                      try clear c19b0
                      try clear hx206_0
                      try clear hx207_0
                      try clear hx208_0
                      try clear p2
                      try clear p206
                      try clear p207
                      try clear p208
                      try clear p6
                      try clear q206
                      try clear q207
                      try clear q208
                      obtain ⟨kq, x56_15, rfl, HA, HJ15, HO_0, BK205, HB⟩ := hcut
                      cases kq with
                      | zero => exact absurd HA.out (by simp [soffitref01_dec.j1])
                      | succ kj15 =>
                        have H := HA.out
                        clear HA
                        simp only [soffitref01_dec.j1] at H
                        by_cases c20 : x56_15 = true
                        · subst c20
                          have H1 : (if 0 ≤ (ji13) then (if (ji13) ≤ (l0.length : Int) then (soffitref01_dec.j2 kj15 (l0.drop ((ji13) : Int).toNat) 6 a2 1) else (none)) else (none)) = some (r1, r2, r3) := by rw [if_pos rfl] at H; exact H
                          clear H
                          have H := H1
                          clear H1
                          by_cases c21 : 0 ≤ (ji13)
                          · rw [if_pos c21] at H
                            have c21b0 := eq_true c21
                            have c21b1 : decide (0 ≤ (ji13)) = true := decide_eq_true c21
                            clear c21
                            by_cases c22 : (ji13) ≤ (l0.length : Int)
                            · rw [if_pos c22] at H
                              have c22b0 := eq_true c22
                              have c22b1 : decide ((ji13) ≤ (l0.length : Int)) = true := decide_eq_true c22
                              clear c22
                              obtain ⟨y209, hy209⟩ : ∃ y_ : List Int, y_ = (l0.drop ((ji13) : Int).toNat) := ⟨_, rfl⟩
                              replace H : (soffitref01_dec.j2 kj15 y209 6 a2 1) = some (r1, r2, r3) := by first | (rw [hy209]; with_reducible exact H) | (have H2_ := (Option.bind_some _ _).symm.trans H; rw [hy209]; with_reducible exact H2_) | (have H2_ := (Option.bind_some _ _).symm.trans H; with_reducible exact H2_) | with_reducible exact H | (rw [hy209]; exact H) | exact H
                              have Ny209 := Aside0.mk hy209
                              clear hy209
                              have H' := Aside0.mk H
                              clear H
                              have q23 : ((ji13) : Int) ≤ ((l0.length : Int) : Int) := of_decide_eq_true (by first | (with_reducible assumption) | assumption)
                              obtain ⟨i023, hi023, _, hsz23, _⟩ := info_parts info3
                              have hroom23 : l0.length ≤ c0 := (Kd.V_reads' HO_0.out).2.1
                              have hC23 : Kd.F (Kd.int .i64) _ _ (some ad207) l0.length l0 := (Kd.V_at (base := w.heap.size) HO_0.out).2.2
                              have q023 : (0 : Int) ≤ ((ji13) : Int) := of_decide_eq_true (by first | (with_reducible assumption) | assumption)
                              have hcut23 := cut_from (P := Tryd.prog) 55 3 .i64 Tryd.underlying55 hi023 1 hsz23 (some ad207) l0.length c0 (ji13) q023 q23
                              have hr23 := Kd.F_cut (m := ((ji13) : Int).toNat) (c := c0) hC23 (by omega) hroom23
                              obtain ⟨A23, hA23⟩ : ∃ A1, A1 = (if c0 = ((ji13) : Int).toNat then (some ad207) else ((some ad207) : Option Addr).map (·.add (((ji13) : Int).toNat * 1))) := ⟨_, rfl⟩
                              obtain ⟨c23, hc23⟩ : ∃ c1, c1 = c0 - ((ji13) : Int).toNat := ⟨_, rfl⟩
                              have hy23 : y209.length = l0.length - ((ji13) : Int).toNat := (by rw [Ny209.out, List.length_drop] <;> omega)
                              rw [show (l0).drop ((ji13) : Int).toNat = y209 from Ny209.out.symm] at hr23
                              replace hr23 : Kd.F (Kd.int .i64) _ _ A23 y209.length y209 := (by rw [hA23]; exact hr23)
                              rw [← hy23, ← hA23, ← hc23] at hcut23
                              have HO213 := Aside0.mk (show Kd.V (Kd.int .i64) 3 _ w.heap.size _ (.slice A23 y209.length c23) y209 from Kd.V_mk (by rw [hy23, hc23]; exact Nat.sub_le_sub_right hroom23 _) hr23)
                              have HC213 := Aside0.mk (show y209.length ≤ c23 from by rw [hy23, hc23]; exact Nat.sub_le_sub_right hroom23 _)
                              clear hr23 hC23 hroom23 hi023 hsz23 hc23
                              have KY23 := Aside0.mk hy23
                              have KA23 := Aside0.mk hA23
                              clear hy23 hA23
                              replace q23 := eq_true q23
                              go_wp2
                              first | (go_meet; (case rel => exact ⟨_, (y209), (6), (1), (by first | rfl | (simp; done) | (simp [*]; done)), (by first | rfl | (simp; done) | (simp [*]; done)), H', ⟨by have := HK1.out; have := HJ15.out; first | omega | exact Nat.le_refl _⟩, ⟨by (with_reducible repeat (first | apply Kd.V_alloc | apply Kd.V_drewN | apply Kd.V_drew)); exact HO213.out⟩, ⟨by (with_reducible repeat (first | refine blk_drewN ?_ _ | refine blk_drew ?_ | refine blk_alloc ?_ _)); exact BK205.out⟩, ⟨by repeat (first | (with_reducible first | exact HB.out | apply below_alloc | apply pw_below_drewN | apply below_drew1 | refine below_set ?_ GE205.out) | exact HB.out)⟩⟩)) | (subst hji13; go_meet; (case rel => exact ⟨_, (y209), (6), (1), (by first | rfl | (simp; done) | (simp [*]; done)), (by first | rfl | (simp; done) | (simp [*]; done)), H', ⟨by have := HK1.out; have := HJ15.out; first | omega | exact Nat.le_refl _⟩, ⟨by (with_reducible repeat (first | apply Kd.V_alloc | apply Kd.V_drewN | apply Kd.V_drew)); exact HO213.out⟩, ⟨by (with_reducible repeat (first | refine blk_drewN ?_ _ | refine blk_drew ?_ | refine blk_alloc ?_ _)); exact BK205.out⟩, ⟨by repeat (first | (with_reducible first | exact HB.out | apply below_alloc | apply pw_below_drewN | apply below_drew1 | refine below_set ?_ GE205.out) | exact HB.out)⟩⟩)) | (subst hji10; go_meet; (case rel => exact ⟨_, (y209), (6), (1), (by first | rfl | (simp; done) | (simp [*]; done)), (by first | rfl | (simp; done) | (simp [*]; done)), H', ⟨by have := HK1.out; have := HJ15.out; first | omega | exact Nat.le_refl _⟩, ⟨by (with_reducible repeat (first | apply Kd.V_alloc | apply Kd.V_drewN | apply Kd.V_drew)); exact HO213.out⟩, ⟨by (with_reducible repeat (first | refine blk_drewN ?_ _ | refine blk_drew ?_ | refine blk_alloc ?_ _)); exact BK205.out⟩, ⟨by repeat (first | (with_reducible first | exact HB.out | apply below_alloc | apply pw_below_drewN | apply below_drew1 | refine below_set ?_ GE205.out) | exact HB.out)⟩⟩))
                            · rw [if_neg c22] at H
                              exact absurd H (by simp)
                          · rw [if_neg c21] at H
                            exact absurd H (by simp)
                        · replace c20 := Bool.eq_false_iff.mpr c20
                          subst c20
                          have H1 : (if 0 ≤ (ji13) then (if (ji13) ≤ (l0.length : Int) then (soffitref01_dec.j2 kj15 (l0.drop ((ji13) : Int).toNat) 6 a2 0) else (none)) else (none)) = some (r1, r2, r3) := by rw [if_neg (show ¬ (false = true) by decide)] at H; exact H
                          clear H
                          have H := H1
                          clear H1
                          by_cases c24 : 0 ≤ (ji13)
                          · rw [if_pos c24] at H
                            have c24b0 := eq_true c24
                            have c24b1 : decide (0 ≤ (ji13)) = true := decide_eq_true c24
                            clear c24
                            by_cases c25 : (ji13) ≤ (l0.length : Int)
                            · rw [if_pos c25] at H
                              have c25b0 := eq_true c25
                              have c25b1 : decide ((ji13) ≤ (l0.length : Int)) = true := decide_eq_true c25
                              clear c25
                              obtain ⟨y214, hy214⟩ : ∃ y_ : List Int, y_ = (l0.drop ((ji13) : Int).toNat) := ⟨_, rfl⟩
                              replace H : (soffitref01_dec.j2 kj15 y214 6 a2 0) = some (r1, r2, r3) := by first | (rw [hy214]; with_reducible exact H) | (have H2_ := (Option.bind_some _ _).symm.trans H; rw [hy214]; with_reducible exact H2_) | (have H2_ := (Option.bind_some _ _).symm.trans H; with_reducible exact H2_) | with_reducible exact H | (rw [hy214]; exact H) | exact H
                              have Ny214 := Aside0.mk hy214
                              clear hy214
                              have H' := Aside0.mk H
                              clear H
                              have q26 : ((ji13) : Int) ≤ ((l0.length : Int) : Int) := of_decide_eq_true (by first | (with_reducible assumption) | assumption)
                              obtain ⟨i026, hi026, _, hsz26, _⟩ := info_parts info3
                              have hroom26 : l0.length ≤ c0 := (Kd.V_reads' HO_0.out).2.1
                              have hC26 : Kd.F (Kd.int .i64) _ _ (some ad207) l0.length l0 := (Kd.V_at (base := w.heap.size) HO_0.out).2.2
                              have q026 : (0 : Int) ≤ ((ji13) : Int) := of_decide_eq_true (by first | (with_reducible assumption) | assumption)
                              have hcut26 := cut_from (P := Tryd.prog) 55 3 .i64 Tryd.underlying55 hi026 1 hsz26 (some ad207) l0.length c0 (ji13) q026 q26
                              have hr26 := Kd.F_cut (m := ((ji13) : Int).toNat) (c := c0) hC26 (by omega) hroom26
                              obtain ⟨A26, hA26⟩ : ∃ A1, A1 = (if c0 = ((ji13) : Int).toNat then (some ad207) else ((some ad207) : Option Addr).map (·.add (((ji13) : Int).toNat * 1))) := ⟨_, rfl⟩
                              obtain ⟨c26, hc26⟩ : ∃ c1, c1 = c0 - ((ji13) : Int).toNat := ⟨_, rfl⟩
                              have hy26 : y214.length = l0.length - ((ji13) : Int).toNat := (by rw [Ny214.out, List.length_drop] <;> omega)
                              rw [show (l0).drop ((ji13) : Int).toNat = y214 from Ny214.out.symm] at hr26
                              replace hr26 : Kd.F (Kd.int .i64) _ _ A26 y214.length y214 := (by rw [hA26]; exact hr26)
                              rw [← hy26, ← hA26, ← hc26] at hcut26
                              have HO218 := Aside0.mk (show Kd.V (Kd.int .i64) 3 _ w.heap.size _ (.slice A26 y214.length c26) y214 from Kd.V_mk (by rw [hy26, hc26]; exact Nat.sub_le_sub_right hroom26 _) hr26)
                              have HC218 := Aside0.mk (show y214.length ≤ c26 from by rw [hy26, hc26]; exact Nat.sub_le_sub_right hroom26 _)
                              clear hr26 hC26 hroom26 hi026 hsz26 hc26
                              have KY26 := Aside0.mk hy26
                              have KA26 := Aside0.mk hA26
                              clear hy26 hA26
                              replace q26 := eq_true q26
                              go_wp2
                              first | (go_meet; (case rel => exact ⟨_, (y214), (6), (0), (by first | rfl | (simp; done) | (simp [*]; done)), (by first | rfl | (simp; done) | (simp [*]; done)), H', ⟨by have := HK1.out; have := HJ15.out; first | omega | exact Nat.le_refl _⟩, ⟨by (with_reducible repeat (first | apply Kd.V_alloc | apply Kd.V_drewN | apply Kd.V_drew)); exact HO218.out⟩, ⟨by (with_reducible repeat (first | refine blk_drewN ?_ _ | refine blk_drew ?_ | refine blk_alloc ?_ _)); exact BK205.out⟩, ⟨by repeat (first | (with_reducible first | exact HB.out | apply below_alloc | apply pw_below_drewN | apply below_drew1 | refine below_set ?_ GE205.out) | exact HB.out)⟩⟩)) | (subst hji13; go_meet; (case rel => exact ⟨_, (y214), (6), (0), (by first | rfl | (simp; done) | (simp [*]; done)), (by first | rfl | (simp; done) | (simp [*]; done)), H', ⟨by have := HK1.out; have := HJ15.out; first | omega | exact Nat.le_refl _⟩, ⟨by (with_reducible repeat (first | apply Kd.V_alloc | apply Kd.V_drewN | apply Kd.V_drew)); exact HO218.out⟩, ⟨by (with_reducible repeat (first | refine blk_drewN ?_ _ | refine blk_drew ?_ | refine blk_alloc ?_ _)); exact BK205.out⟩, ⟨by repeat (first | (with_reducible first | exact HB.out | apply below_alloc | apply pw_below_drewN | apply below_drew1 | refine below_set ?_ GE205.out) | exact HB.out)⟩⟩)) | (subst hji10; go_meet; (case rel => exact ⟨_, (y214), (6), (0), (by first | rfl | (simp; done) | (simp [*]; done)), (by first | rfl | (simp; done) | (simp [*]; done)), H', ⟨by have := HK1.out; have := HJ15.out; first | omega | exact Nat.le_refl _⟩, ⟨by (with_reducible repeat (first | apply Kd.V_alloc | apply Kd.V_drewN | apply Kd.V_drew)); exact HO218.out⟩, ⟨by (with_reducible repeat (first | refine blk_drewN ?_ _ | refine blk_drew ?_ | refine blk_alloc ?_ _)); exact BK205.out⟩, ⟨by repeat (first | (with_reducible first | exact HB.out | apply below_alloc | apply pw_below_drewN | apply below_drew1 | refine below_set ?_ GE205.out) | exact HB.out)⟩⟩))
                            · rw [if_neg c25] at H
                              exact absurd H (by simp)
                          · rw [if_neg c24] at H
                            exact absurd H (by simp)
                  · rw [if_neg c15] at H
                    exact absurd H (by simp)
                · rw [if_neg c14] at H
                  exact absurd H (by simp)
              · rw [if_neg c12] at H
                exact absurd H (by simp)
            · rw [if_neg c11] at H
              exact absurd H (by simp)
    · rw [if_neg c6] at H
      have c6b0 : decide (0 < (wrap64 (a1 - 6))) = false := decide_eq_false c6
      clear c6
      (first | rw [c6b0] | (simp only [i64_w, i32_w]; rw [c6b0]) | skip)
      have H' := Aside0.mk H
      clear H
      go_wp2
      go_meet
      case rel => exact ⟨_, (l0), (a1), (0), (by first | rfl | (simp; done) | (simp [*]; done)), (by first | rfl | (simp; done) | (simp [*]; done)), H', ⟨by first | omega | exact Nat.le_refl _⟩, ⟨by (with_reducible repeat (first | apply Kd.V_alloc | apply Kd.V_drewN | apply Kd.V_drew)); exact HO0.out⟩, ⟨by (with_reducible repeat (first | refine blk_drewN ?_ _ | refine blk_drew ?_ | refine blk_alloc ?_ _)); exact BK205.out⟩, ⟨by repeat (first | (with_reducible first | exact HB.out | apply below_alloc | apply pw_below_drewN | apply below_drew1 | refine below_set ?_ GE205.out) | exact HB.out)⟩⟩
  case rest =>
    clear HC4
    try clear c1
    try clear c2
    try clear p2
    try clear q2
    try clear hx2
    try clear c3
    try clear c6
    try clear c6b0
    try clear p6
    try clear c7
    try clear c7b0
    try clear c8
    try clear c8b0
    try clear c9
    try clear c9b0
    try clear c11
    try clear c11b0
    try clear c12
    try clear c12b0
    try clear c14
    try clear c14b0
    try clear c15
    try clear c15b0
    try clear c17
    try clear c17b0
    try clear c18
    try clear c18b0
    try clear c18b1
    try clear c19
    try clear c19b0
    try clear c20
    try clear p20
    try clear q20
    try clear hx20
    try clear c21
    try clear c21b0
    try clear c21b1
    try clear c22
    try clear c22b0
    try clear c22b1
    try clear c23
    try clear q23
    try clear c24
    try clear c24b0
    try clear c24b1
    try clear c25
    try clear c25b0
    try clear c25b1
    try clear c26
    try clear q26
    try clear hx206_0
    try clear hx207_0
    try clear hx208_0
    try clear p2
    try clear p206
    try clear p207
    try clear p208
    try clear p6
    try clear q023
    try clear q026
    try clear q2
    try clear q206
    try clear q207
    try clear q208
    try clear q23
    try clear q26
    obtain ⟨kq, x0_3, x1_3, x9_3, rfl, rfl, HA, HJ3, HO_0, BK205, HB⟩ := hcut
    cases kq with
    | zero => exact absurd HA.out (by simp [soffitref01_dec.j2])
    | succ kj3 =>
      have H := HA.out
      clear HA
      simp only [soffitref01_dec.j2] at H
      by_cases c27 : 0 ≤ (x0_3.length : Int)
      · rw [if_pos c27] at H
        have c27b0 := eq_true c27
        have c27b1 : decide (0 ≤ (x0_3.length : Int)) = true := decide_eq_true c27
        clear c27
        by_cases c28 : ((x0_3.length : Int) : Int).toNat ≤ 35184372088832
        · rw [if_pos c28] at H
          have c28b0 := eq_true c28
          have c28b1 : decide (((x0_3.length : Int) : Int).toNat ≤ 35184372088832) = true := decide_eq_true c28
          clear c28
          obtain ⟨y219, hy219⟩ : ∃ y_ : List Int, y_ = (List.replicate ((x0_3.length : Int) : Int).toNat 0) := ⟨_, rfl⟩
          replace H : (if 0 < (y219.length : Int) then ((soffitref01_plus.f kj3 x0_3 (y219.set (0 : Int).toNat x9_3)).bind fun t223 => (soffitref01_dec.l1 kj3 t223 x1_3 a2)) else (none)) = some (r1, r2, r3) := by first | (rw [hy219]; with_reducible exact H) | (have H2_ := (Option.bind_some _ _).symm.trans H; rw [hy219]; with_reducible exact H2_) | (have H2_ := (Option.bind_some _ _).symm.trans H; with_reducible exact H2_) | with_reducible exact H | (rw [hy219]; exact H) | exact H
          have Ny219 := Aside0.mk hy219
          clear hy219
          by_cases c29 : 0 < (y219.length : Int)
          · rw [if_pos c29] at H
            have c29b0 : decide (0 < (y219.length : Int)) = true := decide_eq_true c29
            have c29b1 : decide (0 < y219.length) = true := decide_eq_true (by omega)
            clear c29
            obtain ⟨y222, hy222⟩ : ∃ y_ : List Int, y_ = (y219.set (0 : Int).toNat x9_3) := ⟨_, rfl⟩
            replace H : ((soffitref01_plus.f kj3 x0_3 y222).bind fun t223 => (soffitref01_dec.l1 kj3 t223 x1_3 a2)) = some (r1, r2, r3) := by first | (rw [hy222]; with_reducible exact H) | (have H2_ := (Option.bind_some _ _).symm.trans H; rw [hy222]; with_reducible exact H2_) | (have H2_ := (Option.bind_some _ _).symm.trans H; with_reducible exact H2_) | with_reducible exact H | (rw [hy222]; exact H) | exact H
            have Ny222 := Aside0.mk hy222
            clear hy222
            replace H := Option.bind_eq_some_iff.mp H
            obtain ⟨t223, A310, H⟩ := H
            replace H : (soffitref01_dec.l1 kj3 t223 x1_3 a2) = some (r1, r2, r3) := H
            have A31 := Aside0.mk A310
            clear A310
            have HC32 := Aside0.mk H
            clear H
            obtain ⟨Ao33, co33, eo33⟩ := Kd.V_slice HO_0.out
            subst eo33
            go_upto_block 2 with (first | ((with_reducible refine gate_dst (N := 62) rfl ?_); refine Kd.R_make (Kd.int .i64) _ 3 rfl (N := 62) rfl 55 _ _ rfl (x0_3.length : Int) rfl rfl Tryd.underlying55 (.int .i64 0) 8 info3 rfl (by decide) (by omega) 0 (ok := fun _ => True) (okp := fun _ => True) rfl (fun _ hk => hk) trivial (of_decide_eq_true (by first | (with_reducible assumption) | assumption)) (Nat.le_trans (Nat.mul_le_mul_right _ (of_decide_eq_true (by first | (with_reducible assumption) | assumption) : (x0_3.length : Int).toNat ≤ 35184372088832)) (by omega)) (Below.refl _ _) (Nat.le_refl _) ?_; intro v220 w34 ho35 hb hg_ hnew_; clear hg_ hnew_; (first | rw [← Ny219.out] at ho35 | (simp only [Int.reduceToNat] at ho35; rw [← Ny219.out] at ho35)); have n0_ := Aside0.mk (Kd.V_elder' (by (with_reducible repeat (first | apply Kd.V_alloc | apply Kd.V_drewN | apply Kd.V_drew)); exact HO_0.out) (Kd.R_base ho35) hb); have n1_ := Aside0.mk (Kd.R_lower (Kd.R_newM (M := fun k_ => (w.heap.size ≤ k_)) ho35 (below_size (by repeat (first | (with_reducible first | exact HB.out | apply below_alloc | apply pw_below_drewN | apply below_drew1 | refine below_set ?_ GE205.out) | exact HB.out))) (fun k_ h_ => h_)) (below_size (by repeat (first | (with_reducible first | exact HB.out | apply below_alloc | apply pw_below_drewN | apply below_drew1 | refine below_set ?_ GE205.out) | exact HB.out)))); have n2_ := Aside0.mk (blk_below (g := gb205) (o := .cells #[.int .i64 0, .int .i64 0] 23 (0, 0)) (by (with_reducible repeat (first | refine blk_drewN ?_ _ | refine blk_drew ?_ | refine blk_alloc ?_ _)); exact BK205.out) hb); have n3_ := Aside0.mk (below_step (by repeat (first | (with_reducible first | exact HB.out | apply below_alloc | apply pw_below_drewN | apply below_drew1 | refine below_set ?_ GE205.out) | exact HB.out)) hb); clear HO_0; clear BK205; clear HB; have HO_0 := n0_; have HO221 := n1_; have BK205 := n2_; have HB := n3_; clear n0_ n1_ n2_ n3_; clear hb ho35; have p30 : 0 ≤ (0 : Int) := (by omega); have q30 : (0 : Int) < ((y219.length : Int) : Int) := of_decide_eq_true (by first | (with_reducible assumption) | assumption); have qi30 : (0 < y219.length) = True := eq_true (by omega); obtain ⟨go30, co30, eo30, gb30, gl30, cl30, HG30⟩ := Kd.R_form HO221.out (by omega); (first | cases eo30 | (injection eo30 with ea_ en_ ec_; (first | subst ea_ | (injection ea_ with ea_; subst ea_)); subst ec_; clear en_)); have GB30 := Aside0.mk gb30; have GG30 := Aside0.mk HG30; clear gb30 gl30 HG30; obtain ⟨hx30_0, hf30_0⟩ := Kd.R_celln 0 HO221.out (0 : Int) p30 q30; (try rw [show ((0 : Int)).toNat = 0 from rfl] at hx30_0); (try simp only [Nat.reduceMul, Nat.zero_mul, Nat.zero_add, Nat.reduceAdd] at hx30_0); (try rw [show ((0 : Int)).toNat = 0 from rfl] at hf30_0); (try simp only [Nat.reduceMul, Nat.zero_mul, Nat.zero_add, Nat.reduceAdd] at hf30_0); replace p30 := eq_true p30; replace q30 := eq_true q30; have n_ := Aside0.mk (Kd.R_mono (ok' := (fun k_ => (w.heap.size ≤ k_))) HO221.out (fun k_ hk => hk.1)); clear HO221; have HO221 := n_; clear n_; obtain ⟨hy36_, hz36_⟩ := Kd.R_celln 0 HO221.out (0 : Int) (by omega) (of_decide_eq_true (by first | (with_reducible assumption) | assumption)); (try simp only [Int.reduceToNat, Int.toNat_zero, Int.toNat_ofNat, Nat.reduceMul, Nat.zero_mul, Nat.zero_add] at hy36_ hz36_); (try rw [show ((0 : Int)).toNat = 0 from rfl] at hy36_); (try rw [show ((0 : Int)).toNat = 0 from rfl] at hz36_); have HP36 := Kd.R_putg HO221.out (0 : Int) x9_3) | ((with_reducible refine gate_store (t := 3) (p := 65) rfl ?_); refine store_event (t := 3) (p := 65) (v := ?vo_w37) (w1 := (w34.setCell ⟨go30, (0 : Int).toNat, none⟩ (.int .i64 x9_3))) ?hg ?ho ?hn ?hr ?_; (case ho => rfl); (case hg => rfl); (case hn => rfl); (case hr => first | (go_simp; done) | (go_simp; rfl)); intro w37 hw; have hg : w34.grownBy w37 (some go30) := (by rw [hw]; exact HP36.2); have hp_ : Kd.R (Kd.int .i64) 3 w37 w.heap.size (fun k_ => (w.heap.size ≤ k_)) (.slice (some ⟨go30, 0, none⟩) y219.length co30) y222 := (by rw [hw, Ny222.out]; exact HP36.1); clear HP36; have n0_ := Aside0.mk (Kd.V_afterv (v := (.slice (some ⟨go30, 0, none⟩) y219.length co30)) (v1 := (.slice (some ⟨go30, 0, none⟩) y219.length co30)) (ok := (fun k_ => (P0_ k_ ∨ w.heap.size ≤ k_) ∧ k_ ≠ gb205)) (by (with_reducible repeat (first | apply Kd.V_alloc | apply Kd.V_drewN | apply Kd.V_drew)); exact HO_0.out) hg (.inl rfl)); have n1_ := Aside0.mk (blk_grown (g := gb205) (o := .cells #[.int .i64 0, .int .i64 0] 23 (0, 0)) (by (with_reducible repeat (first | refine blk_drewN ?_ _ | refine blk_drew ?_ | refine blk_alloc ?_ _)); exact BK205.out) hg (Kd.R_ne HO221.out BK205.out (by decide))); have n2_ := Aside0.mk (hp_); have n3_ := Aside0.mk ((by rw [hw]; exact below_set (HB.out) GB30.out : Below w.heap.size w w37)); clear HO_0; clear BK205; clear HO221; clear HB; have HO_0 := n0_; have BK205 := n1_; have HO221 := n2_; have HB := n3_; clear n0_ n1_ n2_ n3_; clear hg hw hp_) | ((with_reducible refine gate_callee (f := 46) rfl ?_); refine goesL_ (some 68) rfl rfl Tryd.func46 (by kernel_rfl) rfl #[.slice Ao33 x0_3.length co33, .slice (some ⟨go30, 0, none⟩) y222.length co30] rfl (by (try simp only [List.map_toArray, List.map_cons, List.map_nil]); first | done | (rw [show y222.length = y219.length from (Kd.R_reads' HO221.out).1.symm] <;> rfl) | rfl | (simp only [List.length_drop, List.length_take]; rfl)) ?_; (with_reducible refine (soffitref01_plus.calls kj3 _ _ x0_3 _ _ y222 t223 _ ?side1 ?side2 ?side3 ?side4 A31.out).mono ?_); (case side1 => repeat (first | exact (Kd.V_reads' HO_0.out).2.2 | (with_reducible refine Kd.C_alloc ?_ _) | (with_reducible refine Kd.C_drewN ?_ _) | (with_reducible refine Kd.C_drew ?_))); (case side2 => exact (Kd.V_reads' HO_0.out).2.1); (case side3 => repeat (first | exact (Kd.R_reads' HO221.out).2.2 | (with_reducible refine Kd.C_alloc ?_ _) | (with_reducible refine Kd.C_drewN ?_ _) | (with_reducible refine Kd.C_drew ?_))); (case side4 => rw [show y222.length = y219.length from (Kd.R_reads' HO221.out).1.symm]; exact (Kd.R_reads' HO221.out).2.1); rintro e w38 ⟨v224, rfl, ho0, hb⟩; refine ⟨_, rfl, ?_⟩; have n0_ := Aside0.mk (Kd.V_elder' (by (with_reducible repeat (first | apply Kd.V_alloc | apply Kd.V_drewN | apply Kd.V_drew)); exact HO_0.out) (Kd.R_base ho0) hb); have n1_ := Aside0.mk (Kd.R_elder' (by (with_reducible repeat (first | apply Kd.R_alloc | apply Kd.R_drewN | apply Kd.R_drew)); exact HO221.out) (Kd.R_base ho0) hb); have n2_ := Aside0.mk (Kd.R_lower (Kd.R_new' (Kd.R_newM (M := fun k_ => (w.heap.size ≤ k_)) ho0 (below_size (by repeat (first | (with_reducible first | exact HB.out | apply below_alloc | apply pw_below_drewN | apply below_drew1 | refine below_set ?_ GE205.out) | exact HB.out))) (fun k_ h_ => h_)) (Kd.R_lt (by (with_reducible repeat (first | apply Kd.R_alloc | apply Kd.R_drewN | apply Kd.R_drew)); exact HO221.out))) (below_size (by repeat (first | (with_reducible first | exact HB.out | apply below_alloc | apply pw_below_drewN | apply below_drew1 | refine below_set ?_ GE205.out) | exact HB.out)))); have n3_ := Aside0.mk (blk_below (g := gb205) (o := .cells #[.int .i64 0, .int .i64 0] 23 (0, 0)) (by (with_reducible repeat (first | refine blk_drewN ?_ _ | refine blk_drew ?_ | refine blk_alloc ?_ _)); exact BK205.out) hb); have n4_ := Aside0.mk (below_step (by repeat (first | (with_reducible first | exact HB.out | apply below_alloc | apply pw_below_drewN | apply below_drew1 | refine below_set ?_ GE205.out) | exact HB.out)) hb); clear HO_0; clear HO221; clear BK205; clear HB; have HO_0 := n0_; have HO221 := n1_; have HO225 := n2_; have BK205 := n3_; have HB := n4_; clear n0_ n1_ n2_ n3_ n4_; (try clear hb); (try clear hb2); (try clear hk); (try clear hi); (try clear ho0)))
            (try simp only [Act.put, List.setIfInBounds_toArray, List.set_cons_zero, List.set_cons_succ])
            go_cut [0, 1] (fun v0 v1 wc => ∃ (kq : Nat) (x0_31 : List Int) (x1_31 : Int), v1 = .int .i64 x1_31 ∧ Aside0 (soffitref01_dec.j4 kq x0_31 x1_31 a2 = some (r1, r2, r3)) ∧ Aside0 (kq ≤ kj3) ∧ Aside0 (Kd.Q (Kd.int .i64) 3 wc w.heap.size (fun k_ => (w.heap.size ≤ k_)) v0 x0_31) ∧ Aside0 (wc.heap[gb205]? = some (.cells #[.int .i64 0, .int .i64 0] 23 (0, 0))) ∧ Aside0 (Below w.heap.size w wc))
            case first =>
              have H := HC32.out
              clear HC32
              have H' := Aside0.mk H
              clear H
              go_wp2
              (try simp only [Act.put, List.setIfInBounds_toArray, List.set_cons_succ, List.set_cons_zero])
              go_loopg [0, 1] kj3 (fun kq v0 v1 w' => ∃ (x0_2 : List Int) (x1_2 : Int), v1 = .int .i64 x1_2 ∧ Aside0 (soffitref01_dec.l1 kq x0_2 x1_2 a2 = some (r1, r2, r3)) ∧ Aside0 (kq ≤ kj3) ∧ Aside0 (Kd.Q (Kd.int .i64) 3 w' w.heap.size (fun k_ => (w.heap.size ≤ k_)) v0 x0_2) ∧ Aside0 (w'.heap[gb205]? = some (.cells #[.int .i64 0, .int .i64 0] 23 (0, 0))) ∧ Aside0 (Below w.heap.size w w'))
              case atStart => exact ⟨(t223), (x1_3), (by first | rfl | (simp; done) | (simp [*]; done)), H', ⟨Nat.le_refl _⟩, ⟨Kd.Q_of_R (by (with_reducible repeat (first | apply Kd.R_alloc | apply Kd.R_drewN | apply Kd.R_drew)); exact Kd.R_mono HO225.out (fun _ hk => hk.1.1))⟩, ⟨by (with_reducible repeat (first | refine blk_drewN ?_ _ | refine blk_drew ?_ | refine blk_alloc ?_ _)); exact BK205.out⟩, ⟨by repeat (first | (with_reducible first | exact HB.out | apply below_alloc | apply pw_below_drewN | apply below_drew1 | refine below_set ?_ GE205.out) | exact HB.out)⟩⟩
              case round =>
                clear H'
                try clear c1
                try clear c2
                try clear p2
                try clear q2
                try clear hx2
                try clear c3
                try clear p3
                try clear q3
                try clear hx3
                try clear qi3
                try clear hf3
                try clear c4
                try clear c6
                try clear c6b0
                try clear p6
                try clear c7
                try clear c7b0
                try clear c8
                try clear c8b0
                try clear c9
                try clear c9b0
                try clear c11
                try clear c11b0
                try clear c12
                try clear c12b0
                try clear c14
                try clear c14b0
                try clear c15
                try clear c15b0
                try clear c17
                try clear c17b0
                try clear c18
                try clear c18b0
                try clear c18b1
                try clear c19
                try clear c19b0
                try clear c20
                try clear p20
                try clear q20
                try clear hx20
                try clear c21
                try clear c21b0
                try clear c21b1
                try clear c22
                try clear c22b0
                try clear c22b1
                try clear c23
                try clear q23
                try clear c24
                try clear c24b0
                try clear c24b1
                try clear c25
                try clear c25b0
                try clear c25b1
                try clear c26
                try clear q26
                try clear c27
                try clear c27b0
                try clear c27b1
                try clear c28
                try clear c28b0
                try clear c28b1
                try clear c29
                try clear c29b0
                try clear c29b1
                try clear p30
                try clear q30
                try clear hx30
                try clear qi30
                try clear hf30
                try clear c34
                try clear hx206_0
                try clear hx207_0
                try clear hx208_0
                try clear hx30_0
                try clear p2
                try clear p20
                try clear p206
                try clear p207
                try clear p208
                try clear p30
                try clear p6
                try clear q023
                try clear q026
                try clear q2
                try clear q20
                try clear q206
                try clear q207
                try clear q208
                try clear q23
                try clear q26
                try clear q30
                obtain ⟨x0_2, x1_2, rfl, HA, HK2, HO_0, BK205, HB⟩ := hrel
                cases gk with
                | zero => exact absurd HA.out (by simp [soffitref01_dec.l1])
                | succ k2 =>
                  have H := HA.out
                  clear HA
                  simp only [soffitref01_dec.l1] at H
                  by_cases c39 : x1_2 > 0
                  · rw [if_pos c39] at H
                    have c39b0 : decide (0 < x1_2) = true := decide_eq_true c39
                    clear c39
                    (first | rw [c39b0] | (simp only [i64_w, i32_w]; rw [c39b0]) | skip)
                    by_cases c40 : 0 < (x0_2.length : Int)
                    · rw [if_pos c40] at H
                      have c40b0 : decide (0 < (x0_2.length : Int)) = true := decide_eq_true c40
                      have c40b1 : decide (0 < x0_2.length) = true := decide_eq_true (by omega)
                      clear c40
                      by_cases c41 : (rd x0_2 0) = 0
                      · rw [if_pos c41] at H
                        have c41b0 : ((rd x0_2 0) == 0) = true := beq_iff_eq.mpr c41
                        have c41b1 : ((rd x0_2 0) != 0) = false := bne_eq_false_iff_eq.mpr c41
                        clear c41
                        by_cases c42 : 1 ≤ (x0_2.length : Int)
                        · rw [if_pos c42] at H
                          have c42b0 := eq_true c42
                          have c42b1 : decide (1 ≤ (x0_2.length : Int)) = true := decide_eq_true c42
                          clear c42
                          obtain ⟨y227, hy227⟩ : ∃ y_ : List Int, y_ = (x0_2.drop (1 : Int).toNat) := ⟨_, rfl⟩
                          replace H : (soffitref01_dec.l1 k2 y227 (wrap64 (x1_2 - 1)) a2) = some (r1, r2, r3) := by first | (rw [hy227]; with_reducible exact H) | (have H2_ := (Option.bind_some _ _).symm.trans H; rw [hy227]; with_reducible exact H2_) | (have H2_ := (Option.bind_some _ _).symm.trans H; with_reducible exact H2_) | with_reducible exact H | (rw [hy227]; exact H) | exact H
                          have Ny227 := Aside0.mk hy227
                          clear hy227
                          have H' := Aside0.mk H
                          clear H
                          obtain ⟨Ao43, co43, eo43, _⟩ := Kd.Q_slice HO_0.out
                          subst eo43
                          have p226 : 0 ≤ (0 : Int) := (by omega)
                          have q226 : 0 < (x0_2.length : Int) := of_decide_eq_true (by first | (with_reducible assumption) | assumption)
                          obtain ⟨ad226, e226, hx226_0⟩ := Kd.at_int (Kd.Q_reads' HO_0.out).2.2 0 p226 q226
                          cases e226
                          have qi226 : (0 < x0_2.length) = True := eq_true (by omega)
                          (try rw [show ((0 : Int)).toNat = 0 from rfl] at hx226_0)
                          (try rw [Addr.add_zero'] at hx226_0)
                          replace p226 := eq_true p226
                          replace q226 := eq_true q226
                          have q44 : (1 : Int) ≤ ((x0_2.length : Int) : Int) := of_decide_eq_true (by first | (with_reducible assumption) | assumption)
                          obtain ⟨i044, hi044, _, hsz44, _⟩ := info_parts info3
                          have hcut44 := cut_from (P := Tryd.prog) 55 3 .i64 Tryd.underlying55 hi044 1 hsz44 (some ad226) x0_2.length co43 1 (by omega) q44
                          have hr44 := Kd.Q_drop (k := (1 : Int).toNat) HO_0.out (by omega)
                          obtain ⟨A44, hA44⟩ : ∃ A1, A1 = (if co43 = (1 : Int).toNat then (some ad226) else ((some ad226) : Option Addr).map (·.add ((1 : Int).toNat * 1))) := ⟨_, rfl⟩
                          obtain ⟨c44, hc44⟩ : ∃ c1, c1 = co43 - (1 : Int).toNat := ⟨_, rfl⟩
                          have hy44 : y227.length = x0_2.length - (1 : Int).toNat := (by rw [Ny227.out, List.length_drop])
                          rw [← Ny227.out] at hr44
                          rw [← hy44, ← hA44, ← hc44] at hcut44
                          replace hr44 : Kd.Q (Kd.int .i64) 3 wr w.heap.size (fun k_ => (w.heap.size ≤ k_)) (.slice A44 y227.length c44) y227 := (by rw [hA44, hc44, hy44]; exact hr44)
                          have HE44 : Aside0 ((Value.slice A44 y227.length c44).ownBlock = (.slice (some ad226) x0_2.length co43 : Value).ownBlock) := ⟨by rw [hA44]; split <;> (cases ((some ad226) : Option Addr) <;> rfl)⟩
                          clear hy44 hi044 hsz44 HO_0 hA44 hc44
                          have HO229 := Aside0.mk hr44
                          clear hr44
                          replace q44 := eq_true q44
                          go_wp2
                          go_roundg k2
                          case measure => have := HJ3.out; have := HK2.out; omega
                          case rel => exact ⟨(y227), (wrap64 (x1_2 - 1)), (by first | rfl | (simp; done) | (simp [*]; done)), H', ⟨by have := HJ3.out; have := HK2.out; omega⟩, ⟨by (with_reducible repeat (first | apply Kd.Q_alloc | apply Kd.Q_drewN | apply Kd.Q_drew)); exact HO229.out⟩, ⟨by (with_reducible repeat (first | refine blk_drewN ?_ _ | refine blk_drew ?_ | refine blk_alloc ?_ _)); exact BK205.out⟩, ⟨by repeat (first | (with_reducible first | exact HB.out | apply below_alloc | apply pw_below_drewN | apply below_drew1 | refine below_set ?_ GE205.out) | exact HB.out)⟩⟩
                        · rw [if_neg c42] at H
                          exact absurd H (by simp)
                      · rw [if_neg c41] at H
                        have c41b0 : ((rd x0_2 0) == 0) = false := beq_eq_false_iff_ne.mpr c41
                        have c41b1 : ((rd x0_2 0) != 0) = true := bne_iff_ne.mpr c41
                        have H' := Aside0.mk H
                        clear H
                        obtain ⟨Ao45, co45, eo45, _⟩ := Kd.Q_slice HO_0.out
                        subst eo45
                        have p226 : 0 ≤ (0 : Int) := (by omega)
                        have q226 : 0 < (x0_2.length : Int) := of_decide_eq_true (by first | (with_reducible assumption) | assumption)
                        obtain ⟨ad226, e226, hx226_0⟩ := Kd.at_int (Kd.Q_reads' HO_0.out).2.2 0 p226 q226
                        cases e226
                        have qi226 : (0 < x0_2.length) = True := eq_true (by omega)
                        (try rw [show ((0 : Int)).toNat = 0 from rfl] at hx226_0)
                        (try rw [Addr.add_zero'] at hx226_0)
                        replace p226 := eq_true p226
                        replace q226 := eq_true q226
                        go_wp2
                        go_meet
                        case rel => exact ⟨_, (x0_2), (x1_2), (by first | rfl | (simp; done) | (simp [*]; done)), H', ⟨by have := HJ3.out; have := HK2.out; first | omega | exact Nat.le_refl _⟩, ⟨by (with_reducible repeat (first | apply Kd.Q_alloc | apply Kd.Q_drewN | apply Kd.Q_drew)); exact HO_0.out⟩, ⟨by (with_reducible repeat (first | refine blk_drewN ?_ _ | refine blk_drew ?_ | refine blk_alloc ?_ _)); exact BK205.out⟩, ⟨by repeat (first | (with_reducible first | exact HB.out | apply below_alloc | apply pw_below_drewN | apply below_drew1 | refine below_set ?_ GE205.out) | exact HB.out)⟩⟩
                    · rw [if_neg c40] at H
                      exact absurd H (by simp)
                  · rw [if_neg c39] at H
                    have c39b0 : decide (0 < x1_2) = false := decide_eq_false c39
                    clear c39
                    (first | rw [c39b0] | (simp only [i64_w, i32_w]; rw [c39b0]) | skip)
                    have H' := Aside0.mk H
                    clear H
                    go_wp2
                    go_meet
                    case rel => exact ⟨_, (x0_2), (x1_2), (by first | rfl | (simp; done) | (simp [*]; done)), H', ⟨by have := HJ3.out; have := HK2.out; first | omega | exact Nat.le_refl _⟩, ⟨by (with_reducible repeat (first | apply Kd.Q_alloc | apply Kd.Q_drewN | apply Kd.Q_drew)); exact HO_0.out⟩, ⟨by (with_reducible repeat (first | refine blk_drewN ?_ _ | refine blk_drew ?_ | refine blk_alloc ?_ _)); exact BK205.out⟩, ⟨by repeat (first | (with_reducible first | exact HB.out | apply below_alloc | apply pw_below_drewN | apply below_drew1 | refine below_set ?_ GE205.out) | exact HB.out)⟩⟩
            case rest =>
              clear HC32
              try clear c1
              try clear c2
              try clear p2
              try clear q2
              try clear hx2
              try clear qi2
              try clear c3
              try clear p3
              try clear q3
              try clear hx3
              try clear qi3
              try clear hf3
              try clear c4
              try clear q4
              try clear c6
              try clear c6b0
              try clear p6
              try clear c7
              try clear c7b0
              try clear c8
              try clear c8b0
              try clear c9
              try clear c9b0
              try clear c11
              try clear c11b0
              try clear c12
              try clear c12b0
              try clear c14
              try clear c14b0
              try clear c15
              try clear c15b0
              try clear c17
              try clear c17b0
              try clear c18
              try clear c18b0
              try clear c18b1
              try clear c19
              try clear c19b0
              try clear c20
              try clear p20
              try clear q20
              try clear hx20
              try clear c21
              try clear c21b0
              try clear c21b1
              try clear c22
              try clear c22b0
              try clear c22b1
              try clear p22
              try clear q22
              try clear hx22
              try clear qi22
              try clear c23
              try clear q23
              try clear c24
              try clear c24b0
              try clear c24b1
              try clear c25
              try clear c25b0
              try clear c25b1
              try clear c26
              try clear q26
              try clear c27
              try clear c27b0
              try clear c27b1
              try clear c28
              try clear c28b0
              try clear c28b1
              try clear c29
              try clear c29b0
              try clear c29b1
              try clear p30
              try clear q30
              try clear hx30
              try clear qi30
              try clear hf30
              try clear c34
              try clear c39
              try clear c39b0
              try clear c40
              try clear c40b0
              try clear c40b1
              try clear c41
              try clear c41b0
              try clear c41b1
              try clear c42
              try clear c42b0
              try clear c42b1
              try clear c44
              try clear q44
              try clear hx206_0
              try clear hx207_0
              try clear hx208_0
              try clear hx226_0
              try clear hx30_0
              try clear p2
              try clear p20
              try clear p206
              try clear p207
              try clear p208
              try clear p226
              try clear p3
              try clear p30
              try clear p6
              try clear q023
              try clear q026
              try clear q2
              try clear q20
              try clear q206
              try clear q207
              try clear q208
              try clear q226
              try clear q23
              try clear q26
              try clear q3
              try clear q30
              try clear q44
              obtain ⟨kq, x0_31, x1_31, rfl, HA, HJ31, HO_0, BK205, HB⟩ := hcut
              cases kq with
              | zero => exact absurd HA.out (by simp [soffitref01_dec.j4])
              | succ kj31 =>
                have H := HA.out
                clear HA
                simp only [soffitref01_dec.j4] at H
                have H' := Aside0.mk H
                clear H
                obtain ⟨Ao46, co46, eo46, _⟩ := Kd.Q_slice HO_0.out
                subst eo46
                go_wp2
                (try simp only [Act.put, List.setIfInBounds_toArray, List.set_cons_succ, List.set_cons_zero])
                go_loopg [15, 16] kj31 (fun kq v15 v16 w' => ∃ (x15_3 : Int) (x16_3 : Int) (x206000_3 : Int) (x206001_3 : Int), v15 = .int .i64 x15_3 ∧ v16 = .int .i64 x16_3 ∧ Aside0 (soffitref01_dec.l2 kq x0_31 x1_31 a2 x15_3 x16_3 = some (r1, r2, r3)) ∧ Aside0 (kq ≤ kj31) ∧ Aside0 (Kd.Q (Kd.int .i64) 3 w' w.heap.size (fun k_ => (w.heap.size ≤ k_)) (.slice Ao46 x0_31.length co46) x0_31) ∧ Aside0 (w'.heap[gb205]? = some (.cells #[.int .i64 x206000_3, .int .i64 x206001_3] 23 (0, 0))) ∧ Aside0 (Below w.heap.size w w'))
                case atStart => exact ⟨(0), (wrap64 ((x0_31.length : Int) - 1)), (0), (0), (by first | rfl | (simp; done) | (simp [*]; done)), (by first | rfl | (simp; done) | (simp [*]; done)), H', ⟨Nat.le_refl _⟩, ⟨by (with_reducible repeat (first | apply Kd.Q_alloc | apply Kd.Q_drewN | apply Kd.Q_drew)); exact HO_0.out⟩, ⟨by (with_reducible repeat (first | refine blk_drewN ?_ _ | refine blk_drew ?_ | refine blk_alloc ?_ _)); exact BK205.out⟩, ⟨by repeat (first | (with_reducible first | exact HB.out | apply below_alloc | apply pw_below_drewN | apply below_drew1 | refine below_set ?_ GE205.out) | exact HB.out)⟩⟩
                case round =>
                  clear H'
                  try clear c1
                  try clear c2
                  try clear p2
                  try clear q2
                  try clear hx2
                  try clear qi2
                  try clear c3
                  try clear p3
                  try clear q3
                  try clear hx3
                  try clear qi3
                  try clear hf3
                  try clear c4
                  try clear q4
                  try clear c6
                  try clear c6b0
                  try clear p6
                  try clear c7
                  try clear c7b0
                  try clear c8
                  try clear c8b0
                  try clear c9
                  try clear c9b0
                  try clear c11
                  try clear c11b0
                  try clear c12
                  try clear c12b0
                  try clear c14
                  try clear c14b0
                  try clear c15
                  try clear c15b0
                  try clear c17
                  try clear c17b0
                  try clear c18
                  try clear c18b0
                  try clear c18b1
                  try clear c19
                  try clear c19b0
                  try clear c20
                  try clear p20
                  try clear q20
                  try clear hx20
                  try clear c21
                  try clear c21b0
                  try clear c21b1
                  try clear c22
                  try clear c22b0
                  try clear c22b1
                  try clear p22
                  try clear q22
                  try clear hx22
                  try clear qi22
                  try clear c23
                  try clear q23
                  try clear c24
                  try clear c24b0
                  try clear c24b1
                  try clear c25
                  try clear c25b0
                  try clear c25b1
                  try clear c26
                  try clear q26
                  try clear c27
                  try clear c27b0
                  try clear c27b1
                  try clear c28
                  try clear c28b0
                  try clear c28b1
                  try clear c29
                  try clear c29b0
                  try clear c29b1
                  try clear p30
                  try clear q30
                  try clear hx30
                  try clear qi30
                  try clear hf30
                  try clear c34
                  try clear c39
                  try clear c39b0
                  try clear c40
                  try clear c40b0
                  try clear c40b1
                  try clear c41
                  try clear c41b0
                  try clear c41b1
                  try clear c42
                  try clear c42b0
                  try clear c42b1
                  try clear c44
                  try clear q44
                  try clear c46
                  try clear hx206_0
                  try clear hx207_0
                  try clear hx208_0
                  try clear hx226_0
                  try clear hx30_0
                  try clear p2
                  try clear p20
                  try clear p206
                  try clear p207
                  try clear p208
                  try clear p22
                  try clear p226
                  try clear p3
                  try clear p30
                  try clear p6
                  try clear q023
                  try clear q026
                  try clear q2
                  try clear q20
                  try clear q206
                  try clear q207
                  try clear q208
                  try clear q22
                  try clear q226
                  try clear q23
                  try clear q26
                  try clear q3
                  try clear q30
                  try clear q4
                  try clear q44
                  obtain ⟨x15_3, x16_3, x206000_3, x206001_3, rfl, rfl, HA, HK3, HO_0, BK205, HB⟩ := hrel
                  cases gk with
                  | zero => exact absurd HA.out (by simp [soffitref01_dec.l2])
                  | succ k3 =>
                    have H := HA.out
                    clear HA
                    simp only [soffitref01_dec.l2] at H
                    by_cases c47 : x16_3 ≥ 0
                    · rw [if_pos c47] at H
                      have c47b0 : decide (0 ≤ x16_3) = true := decide_eq_true c47
                      clear c47
                      by_cases c48 : x15_3 > 999999999999
                      · rw [if_pos c48] at H
                        have c48b0 : decide (999999999999 < x15_3) = true := decide_eq_true c48
                        clear c48
                        simp only [Option.some.injEq, Prod.mk.injEq] at H
                        obtain ⟨rfl, rfl, rfl⟩ := H
                        have hcz49_0 : wr.cell? ⟨gb205, 0, none⟩ = some (.int .i64 x206000_3) := (blk_cell BK205.out 0).trans rfl
                        have hcz49_1 : wr.cell? ⟨gb205, 1, none⟩ = some (.int .i64 x206001_3) := (blk_cell BK205.out 1).trans rfl
                        have hfz49_0 := blk_frozen BK205.out 0
                        have hfz49_1 := blk_frozen BK205.out 1
                        go_wp2
                        refine bodyPost_ret (results_ct rfl _ _ gb205 23 #[.int .i64 0, .int .i64 0] (0, 0) _ rfl (by (with_reducible repeat (first | refine blk_drewN ?_ _ | refine blk_drew ?_ | refine blk_alloc ?_ _)); refine blk_put (cs := #[.int .i64 0, .int .i64 x206001_3]) ?_ 1 _ rfl; (with_reducible repeat (first | refine blk_drewN ?_ _ | refine blk_drew ?_ | refine blk_alloc ?_ _)); refine blk_put (cs := #[.int .i64 x206000_3, .int .i64 x206001_3]) ?_ 0 _ rfl; (with_reducible repeat (first | refine blk_drewN ?_ _ | refine blk_drew ?_ | refine blk_alloc ?_ _)); exact BK205.out) Tryd.underlying23 rfl (by kernel_rfl)) rfl ?_
                        exact ⟨by first | rfl | (simp [errW_none, errW_some] <;> rfl) | (simp [*, errW_none, errW_some] <;> rfl), by repeat (first | (with_reducible first | exact HB.out | apply below_alloc | apply pw_below_drewN | apply below_drew1 | refine below_set ?_ GE205.out) | exact HB.out)⟩
                      · rw [if_neg c48] at H
                        have c48b0 : decide (999999999999 < x15_3) = false := decide_eq_false c48
                        clear c48
                        by_cases c50 : 0 ≤ x16_3
                        · rw [if_pos c50] at H
                          have c50b0 : decide (0 ≤ x16_3) = true := decide_eq_true c50
                          clear c50
                          by_cases c51 : x16_3 < (x0_31.length : Int)
                          · rw [if_pos c51] at H
                            have c51b0 : decide (x16_3 < (x0_31.length : Int)) = true := decide_eq_true c51
                            clear c51
                            have H' := Aside0.mk H
                            clear H
                            have p230 : 0 ≤ (x16_3 : Int) := of_decide_eq_true (by first | (with_reducible assumption) | assumption)
                            have q230 : x16_3 < (x0_31.length : Int) := of_decide_eq_true (by first | (with_reducible assumption) | assumption)
                            obtain ⟨ad230, e230, hx230_0⟩ := Kd.at_int (Kd.Q_reads' HO_0.out).2.2 x16_3 p230 q230
                            cases e230
                            replace p230 := eq_true p230
                            replace q230 := eq_true q230
                            go_wp2
                            go_roundg k3
                            case measure => have := HJ3.out; have := HJ31.out; have := HK3.out; omega
                            case rel => exact ⟨(wrap64 ((wrap64 (x15_3 * 10)) + (rd x0_31 x16_3))), (wrap64 (x16_3 - 1)), (x206000_3), (x206001_3), (by first | rfl | (simp; done) | (simp [*]; done)), (by first | rfl | (simp; done) | (simp [*]; done)), H', ⟨by have := HJ3.out; have := HJ31.out; have := HK3.out; omega⟩, ⟨by (with_reducible repeat (first | apply Kd.Q_alloc | apply Kd.Q_drewN | apply Kd.Q_drew)); exact HO_0.out⟩, ⟨by (with_reducible repeat (first | refine blk_drewN ?_ _ | refine blk_drew ?_ | refine blk_alloc ?_ _)); exact BK205.out⟩, ⟨by repeat (first | (with_reducible first | exact HB.out | apply below_alloc | apply pw_below_drewN | apply below_drew1 | refine below_set ?_ GE205.out) | exact HB.out)⟩⟩
                          · rw [if_neg c51] at H
                            exact absurd H (by simp)
                        · rw [if_neg c50] at H
                          exact absurd H (by simp)
                    · rw [if_neg c47] at H
                      have c47b0 : decide (0 ≤ x16_3) = false := decide_eq_false c47
                      clear c47
                      by_cases c52 : x15_3 > 999999999999
                      · rw [if_pos c52] at H
                        have c52b0 : decide (999999999999 < x15_3) = true := decide_eq_true c52
                        clear c52
                        simp only [Option.some.injEq, Prod.mk.injEq] at H
                        obtain ⟨rfl, rfl, rfl⟩ := H
                        have hcz53_0 : wr.cell? ⟨gb205, 0, none⟩ = some (.int .i64 x206000_3) := (blk_cell BK205.out 0).trans rfl
                        have hcz53_1 : wr.cell? ⟨gb205, 1, none⟩ = some (.int .i64 x206001_3) := (blk_cell BK205.out 1).trans rfl
                        have hfz53_0 := blk_frozen BK205.out 0
                        have hfz53_1 := blk_frozen BK205.out 1
                        go_wp2
                        refine bodyPost_ret (results_ct rfl _ _ gb205 23 #[.int .i64 0, .int .i64 0] (0, 0) _ rfl (by (with_reducible repeat (first | refine blk_drewN ?_ _ | refine blk_drew ?_ | refine blk_alloc ?_ _)); refine blk_put (cs := #[.int .i64 0, .int .i64 x206001_3]) ?_ 1 _ rfl; (with_reducible repeat (first | refine blk_drewN ?_ _ | refine blk_drew ?_ | refine blk_alloc ?_ _)); refine blk_put (cs := #[.int .i64 x206000_3, .int .i64 x206001_3]) ?_ 0 _ rfl; (with_reducible repeat (first | refine blk_drewN ?_ _ | refine blk_drew ?_ | refine blk_alloc ?_ _)); exact BK205.out) Tryd.underlying23 rfl (by kernel_rfl)) rfl ?_
                        exact ⟨by first | rfl | (simp [errW_none, errW_some] <;> rfl) | (simp [*, errW_none, errW_some] <;> rfl), by repeat (first | (with_reducible first | exact HB.out | apply below_alloc | apply pw_below_drewN | apply below_drew1 | refine below_set ?_ GE205.out) | exact HB.out)⟩
                      · rw [if_neg c52] at H
                        have c52b0 : decide (999999999999 < x15_3) = false := decide_eq_false c52
                        clear c52
                        by_cases c54 : a2 = true
                        · subst c54
                          have H1 : (some (wrap64 (-x15_3), x1_31, 0)) = some (r1, r2, r3) := by rw [if_pos rfl] at H; exact H
                          clear H
                          have H := H1
                          clear H1
                          simp only [Option.some.injEq, Prod.mk.injEq] at H
                          obtain ⟨rfl, rfl, rfl⟩ := H
                          have hcz55_0 : wr.cell? ⟨gb205, 0, none⟩ = some (.int .i64 x206000_3) := (blk_cell BK205.out 0).trans rfl
                          have hcz55_1 : wr.cell? ⟨gb205, 1, none⟩ = some (.int .i64 x206001_3) := (blk_cell BK205.out 1).trans rfl
                          have hfz55_0 := blk_frozen BK205.out 0
                          have hfz55_1 := blk_frozen BK205.out 1
                          go_wp2
                          refine bodyPost_ret (results_ct rfl _ _ gb205 23 #[.int .i64 (wrap64 (-x15_3)), .int .i64 x1_31] (0, 0) _ rfl (by (with_reducible repeat (first | refine blk_drewN ?_ _ | refine blk_drew ?_ | refine blk_alloc ?_ _)); refine blk_put (cs := #[.int .i64 (wrap64 (-x15_3)), .int .i64 x206001_3]) ?_ 1 _ rfl; (with_reducible repeat (first | refine blk_drewN ?_ _ | refine blk_drew ?_ | refine blk_alloc ?_ _)); refine blk_put (cs := #[.int .i64 x206000_3, .int .i64 x206001_3]) ?_ 0 _ rfl; (with_reducible repeat (first | refine blk_drewN ?_ _ | refine blk_drew ?_ | refine blk_alloc ?_ _)); exact BK205.out) Tryd.underlying23 rfl (by kernel_rfl)) rfl ?_
                          exact ⟨by first | rfl | (simp [errW_none, errW_some] <;> rfl) | (simp [*, errW_none, errW_some] <;> rfl), by repeat (first | (with_reducible first | exact HB.out | apply below_alloc | apply pw_below_drewN | apply below_drew1 | refine below_set ?_ GE205.out) | exact HB.out)⟩
                        · replace c54 := Bool.eq_false_iff.mpr c54
                          subst c54
                          have H1 : (some (x15_3, x1_31, 0)) = some (r1, r2, r3) := by rw [if_neg (show ¬ (false = true) by decide)] at H; exact H
                          clear H
                          have H := H1
                          clear H1
                          simp only [Option.some.injEq, Prod.mk.injEq] at H
                          obtain ⟨rfl, rfl, rfl⟩ := H
                          have hcz56_0 : wr.cell? ⟨gb205, 0, none⟩ = some (.int .i64 x206000_3) := (blk_cell BK205.out 0).trans rfl
                          have hcz56_1 : wr.cell? ⟨gb205, 1, none⟩ = some (.int .i64 x206001_3) := (blk_cell BK205.out 1).trans rfl
                          have hfz56_0 := blk_frozen BK205.out 0
                          have hfz56_1 := blk_frozen BK205.out 1
                          go_wp2
                          refine bodyPost_ret (results_ct rfl _ _ gb205 23 #[.int .i64 x15_3, .int .i64 x1_31] (0, 0) _ rfl (by (with_reducible repeat (first | refine blk_drewN ?_ _ | refine blk_drew ?_ | refine blk_alloc ?_ _)); refine blk_put (cs := #[.int .i64 x15_3, .int .i64 x206001_3]) ?_ 1 _ rfl; (with_reducible repeat (first | refine blk_drewN ?_ _ | refine blk_drew ?_ | refine blk_alloc ?_ _)); refine blk_put (cs := #[.int .i64 x206000_3, .int .i64 x206001_3]) ?_ 0 _ rfl; (with_reducible repeat (first | refine blk_drewN ?_ _ | refine blk_drew ?_ | refine blk_alloc ?_ _)); exact BK205.out) Tryd.underlying23 rfl (by kernel_rfl)) rfl ?_
                          exact ⟨by first | rfl | (simp [errW_none, errW_some] <;> rfl) | (simp [*, errW_none, errW_some] <;> rfl), by repeat (first | (with_reducible first | exact HB.out | apply below_alloc | apply pw_below_drewN | apply below_drew1 | refine below_set ?_ GE205.out) | exact HB.out)⟩
          · rw [if_neg c29] at H
            exact absurd H (by simp)
        · rw [if_neg c28] at H
          exact absurd H (by simp)
      · rw [if_neg c27] at H
        exact absurd H (by simp)
end Go.Proofs.YtgkemhgihbfmmaaDoor.PA
end
section
namespace Go.Proofs.YtgkemhgihbfmmaaDoor.PA
open Go.RowKit Go.Proofs.YtgkemhgihbfmmaaDoorW.PrintWords Go.Proofs.YtgkemhgihbfmmaaDoorW.PrintLast Go.Proofs.YtgkemhgihbfmmaaDoorW.PrintMore
attribute [local go_sem] max2_int min2_int max_two min_two max_three min_three max_four min_four
set_option linter.unusedVariables false
set_option linter.unusedSimpArgs false
mutual
def soffitref01_Parse.j0 : Nat → ByteArray → Bool → Option (Int × Int × Int)
  | 0, _, _ => none
  | k + 1, x0, x4 => if x4 = true then (if 1 ≤ (x0.size : Int) then (soffitref01_Parse.j1 k (x0.extract 1 x0.size) x4) else (none)) else (soffitref01_Parse.j1 k x0 x4)
def soffitref01_Parse.j1 : Nat → ByteArray → Bool → Option (Int × Int × Int)
  | 0, _, _ => none
  | k + 1, x0, x4 => soffitref01_Parse.l0 k x0 x4 (-1) 0
def soffitref01_Parse.l0 : Nat → ByteArray → Bool → Int → Int → Option (Int × Int × Int)
  | 0, _, _, _, _ => none
  | k + 1, x0, x4, x5, x6 => if x6 < (x0.size : Int) then (if 0 ≤ x6 then (if (bt x0 x6) = 46 then (soffitref01_Parse.j3 k x0 x4 x5 x6 (decide (x5 < 0))) else (soffitref01_Parse.j3 k x0 x4 x5 x6 false)) else (none)) else (if x5 ≥ 0 then (if 0 ≤ x5 then (if x5 ≤ (x0.size : Int) then (if 0 ≤ (wrap64 (x5 + 1)) then (if (wrap64 (x5 + 1)) ≤ (x0.size : Int) then (if (x0.extract ((wrap64 (x5 + 1)) : Int).toNat x0.size).toList = ([] : List UInt8) then (some (0, 0, 5)) else (soffitref01_Parse.j4 k x4 (x0.extract 0 (x5 : Int).toNat) (x0.extract ((wrap64 (x5 + 1)) : Int).toNat x0.size))) else (none)) else (none)) else (none)) else (none)) else (soffitref01_Parse.j4 k x4 x0 (⟨#[]⟩ : ByteArray)))
def soffitref01_Parse.j3 : Nat → ByteArray → Bool → Int → Int → Bool → Option (Int × Int × Int)
  | 0, _, _, _, _, _ => none
  | k + 1, x0, x4, x5, x6, x36 => if x36 = true then (soffitref01_Parse.l0 k x0 x4 x6 (wrap64 (x6 + 1))) else (if 0 ≤ x6 then (if x6 < (x0.size : Int) then (if (bt x0 x6) < 48 then (some (0, 0, 5)) else (if (bt x0 x6) > 57 then (some (0, 0, 5)) else (soffitref01_Parse.l0 k x0 x4 x5 (wrap64 (x6 + 1))))) else (none)) else (none))
def soffitref01_Parse.j4 : Nat → Bool → ByteArray → ByteArray → Option (Int × Int × Int)
  | 0, _, _, _ => none
  | k + 1, x4, x7, x8 => if x7.toList = ([] : List UInt8) then (soffitref01_Parse.j5 k x4 x7 x8 true) else (if (x7.size : Int) > 1 then (if 0 < (x7.size : Int) then (soffitref01_Parse.j5 k x4 x7 x8 ((bt x7 0) == 48)) else (none)) else (soffitref01_Parse.j5 k x4 x7 x8 false))
def soffitref01_Parse.j5 : Nat → Bool → ByteArray → ByteArray → Bool → Option (Int × Int × Int)
  | 0, _, _, _, _ => none
  | k + 1, x4, x7, x8, x73 => if x73 = true then (some (0, 0, 5)) else (soffitref01_Parse.l1 k x4 x7 x8)
def soffitref01_Parse.j7 : Nat → Bool → ByteArray → ByteArray → Option (Int × Int × Int)
  | 0, _, _, _ => none
  | k + 1, x4, x7, x8 => if (x8.size : Int) > 6 then (soffitref01_Parse.j8 k x4 x7 x8 true) else (soffitref01_Parse.j8 k x4 x7 x8 (decide ((x7.size : Int) > 12)))
def soffitref01_Parse.j8 : Nat → Bool → ByteArray → ByteArray → Bool → Option (Int × Int × Int)
  | 0, _, _, _, _ => none
  | k + 1, x4, x7, x8, x98 => if x98 = true then (some (0, 0, 3)) else (if x7.size + x8.size ≤ 9223372036854775807 then (if 60 ≤ 35184372088832 then (soffitref01_Parse.l2 k x4 x8 (x7 ++ x8) (List.replicate 60 0) 0) else (none)) else (none))
def soffitref01_Parse.l2 : Nat → Bool → ByteArray → ByteArray → List Int → Int → Option (Int × Int × Int)
  | 0, _, _, _, _, _ => none
  | k + 1, x4, x8, x9, x10, x11 => if x11 < (x9.size : Int) then (if 0 ≤ x11 then (if 0 ≤ (wrap64 ((wrap64 ((x9.size : Int) - 1)) - x11)) then (if (wrap64 ((wrap64 ((x9.size : Int) - 1)) - x11)) < (x10.length : Int) then (soffitref01_Parse.l2 k x4 x8 x9 (x10.set ((wrap64 ((wrap64 ((x9.size : Int) - 1)) - x11)) : Int).toNat (((bt x9 x11) - 48) % 256)) (wrap64 (x11 + 1))) else (none)) else (none)) else (none)) else ((soffitref01_dec.f k x10 (x8.size : Int) x4).bind fun bt286 => (some (bt286.1, bt286.2.1, bt286.2.2)))
def soffitref01_Parse.l1 : Nat → Bool → ByteArray → ByteArray → Option (Int × Int × Int)
  | 0, _, _, _ => none
  | k + 1, x4, x7, x8 => if (x8.size : Int) > 0 then (if 0 ≤ (wrap64 ((x8.size : Int) - 1)) then (if (wrap64 ((x8.size : Int) - 1)) < (x8.size : Int) then (if (bt x8 (wrap64 ((x8.size : Int) - 1))) = 48 then (if (wrap64 ((x8.size : Int) - 1)) ≤ (x8.size : Int) then (soffitref01_Parse.l1 k x4 x7 (x8.extract 0 ((wrap64 ((x8.size : Int) - 1)) : Int).toNat)) else (none)) else (soffitref01_Parse.j7 k x4 x7 x8)) else (none)) else (none)) else (soffitref01_Parse.j7 k x4 x7 x8)
end
def soffitref01_Parse.f (k : Nat) (a0 : ByteArray) : Option (Int × Int × Int) := if (a0.size : Int) > 0 then (if 0 < (a0.size : Int) then (soffitref01_Parse.j0 k a0 ((bt a0 0) == 45)) else (none)) else (soffitref01_Parse.j0 k a0 false)
theorem soffitref01_Parse.mono_l : ∀ k, (∀ y0 y1, LeO (soffitref01_Parse.j0 k y0 y1) (soffitref01_Parse.j0 (k + 1) y0 y1)) ∧ (∀ y0 y1, LeO (soffitref01_Parse.j1 k y0 y1) (soffitref01_Parse.j1 (k + 1) y0 y1)) ∧ (∀ y0 y1 y2 y3, LeO (soffitref01_Parse.l0 k y0 y1 y2 y3) (soffitref01_Parse.l0 (k + 1) y0 y1 y2 y3)) ∧ (∀ y0 y1 y2 y3 y4, LeO (soffitref01_Parse.j3 k y0 y1 y2 y3 y4) (soffitref01_Parse.j3 (k + 1) y0 y1 y2 y3 y4)) ∧ (∀ y0 y1 y2, LeO (soffitref01_Parse.j4 k y0 y1 y2) (soffitref01_Parse.j4 (k + 1) y0 y1 y2)) ∧ (∀ y0 y1 y2 y3, LeO (soffitref01_Parse.j5 k y0 y1 y2 y3) (soffitref01_Parse.j5 (k + 1) y0 y1 y2 y3)) ∧ (∀ y0 y1 y2, LeO (soffitref01_Parse.j7 k y0 y1 y2) (soffitref01_Parse.j7 (k + 1) y0 y1 y2)) ∧ (∀ y0 y1 y2 y3, LeO (soffitref01_Parse.j8 k y0 y1 y2 y3) (soffitref01_Parse.j8 (k + 1) y0 y1 y2 y3)) ∧ (∀ y0 y1 y2 y3 y4, LeO (soffitref01_Parse.l2 k y0 y1 y2 y3 y4) (soffitref01_Parse.l2 (k + 1) y0 y1 y2 y3 y4)) ∧ (∀ y0 y1 y2, LeO (soffitref01_Parse.l1 k y0 y1 y2) (soffitref01_Parse.l1 (k + 1) y0 y1 y2))
  | 0 => ⟨fun _ _ r h => by simp [soffitref01_Parse.j0] at h, fun _ _ r h => by simp [soffitref01_Parse.j1] at h, fun _ _ _ _ r h => by simp [soffitref01_Parse.l0] at h, fun _ _ _ _ _ r h => by simp [soffitref01_Parse.j3] at h, fun _ _ _ r h => by simp [soffitref01_Parse.j4] at h, fun _ _ _ _ r h => by simp [soffitref01_Parse.j5] at h, fun _ _ _ r h => by simp [soffitref01_Parse.j7] at h, fun _ _ _ _ r h => by simp [soffitref01_Parse.j8] at h, fun _ _ _ _ _ r h => by simp [soffitref01_Parse.l2] at h, fun _ _ _ r h => by simp [soffitref01_Parse.l1] at h⟩
  | k + 1 => by
    obtain ⟨ih0, ih1, ih2, ih3, ih4, ih5, ih6, ih7, ih8, ih9⟩ := soffitref01_Parse.mono_l k
    refine ⟨?_, ?_, ?_, ?_, ?_, ?_, ?_, ?_, ?_, ?_⟩
    · intro y0 y1
      unfold soffitref01_Parse.j0
      repeat' first
      | (with_reducible exact ih0 _ _)
      | (with_reducible exact ih1 _ _)
      | (with_reducible exact ih2 _ _ _ _)
      | (with_reducible exact ih3 _ _ _ _ _)
      | (with_reducible exact ih4 _ _ _)
      | (with_reducible exact ih5 _ _ _ _)
      | (with_reducible exact ih6 _ _ _)
      | (with_reducible exact ih7 _ _ _ _)
      | (with_reducible exact ih8 _ _ _ _ _)
      | (with_reducible exact ih9 _ _ _)
      | (with_reducible exact soffitref01_dec.mono _ _ _ _)
      | (with_reducible exact LeO.refl _)
      | (with_reducible exact LeO.none _)
      | (with_reducible refine LeO.ite ?_ ?_)
      | (with_reducible refine LeO.bind ?_ (fun _ => ?_))
      | exact ih0 _ _
      | exact ih1 _ _
      | exact ih2 _ _ _ _
      | exact ih3 _ _ _ _ _
      | exact ih4 _ _ _
      | exact ih5 _ _ _ _
      | exact ih6 _ _ _
      | exact ih7 _ _ _ _
      | exact ih8 _ _ _ _ _
      | exact ih9 _ _ _
      | exact soffitref01_dec.mono _ _ _ _
      | exact LeO.none _
      | refine LeO.ite ?_ ?_
      | refine LeO.bind ?_ (fun _ => ?_)
    · intro y0 y1
      unfold soffitref01_Parse.j1
      repeat' first
      | (with_reducible exact ih0 _ _)
      | (with_reducible exact ih1 _ _)
      | (with_reducible exact ih2 _ _ _ _)
      | (with_reducible exact ih3 _ _ _ _ _)
      | (with_reducible exact ih4 _ _ _)
      | (with_reducible exact ih5 _ _ _ _)
      | (with_reducible exact ih6 _ _ _)
      | (with_reducible exact ih7 _ _ _ _)
      | (with_reducible exact ih8 _ _ _ _ _)
      | (with_reducible exact ih9 _ _ _)
      | (with_reducible exact soffitref01_dec.mono _ _ _ _)
      | (with_reducible exact LeO.refl _)
      | (with_reducible exact LeO.none _)
      | (with_reducible refine LeO.ite ?_ ?_)
      | (with_reducible refine LeO.bind ?_ (fun _ => ?_))
      | exact ih0 _ _
      | exact ih1 _ _
      | exact ih2 _ _ _ _
      | exact ih3 _ _ _ _ _
      | exact ih4 _ _ _
      | exact ih5 _ _ _ _
      | exact ih6 _ _ _
      | exact ih7 _ _ _ _
      | exact ih8 _ _ _ _ _
      | exact ih9 _ _ _
      | exact soffitref01_dec.mono _ _ _ _
      | exact LeO.none _
      | refine LeO.ite ?_ ?_
      | refine LeO.bind ?_ (fun _ => ?_)
    · intro y0 y1 y2 y3
      unfold soffitref01_Parse.l0
      repeat' first
      | (with_reducible exact ih0 _ _)
      | (with_reducible exact ih1 _ _)
      | (with_reducible exact ih2 _ _ _ _)
      | (with_reducible exact ih3 _ _ _ _ _)
      | (with_reducible exact ih4 _ _ _)
      | (with_reducible exact ih5 _ _ _ _)
      | (with_reducible exact ih6 _ _ _)
      | (with_reducible exact ih7 _ _ _ _)
      | (with_reducible exact ih8 _ _ _ _ _)
      | (with_reducible exact ih9 _ _ _)
      | (with_reducible exact soffitref01_dec.mono _ _ _ _)
      | (with_reducible exact LeO.refl _)
      | (with_reducible exact LeO.none _)
      | (with_reducible refine LeO.ite ?_ ?_)
      | (with_reducible refine LeO.bind ?_ (fun _ => ?_))
      | exact ih0 _ _
      | exact ih1 _ _
      | exact ih2 _ _ _ _
      | exact ih3 _ _ _ _ _
      | exact ih4 _ _ _
      | exact ih5 _ _ _ _
      | exact ih6 _ _ _
      | exact ih7 _ _ _ _
      | exact ih8 _ _ _ _ _
      | exact ih9 _ _ _
      | exact soffitref01_dec.mono _ _ _ _
      | exact LeO.none _
      | refine LeO.ite ?_ ?_
      | refine LeO.bind ?_ (fun _ => ?_)
    · intro y0 y1 y2 y3 y4
      unfold soffitref01_Parse.j3
      repeat' first
      | (with_reducible exact ih0 _ _)
      | (with_reducible exact ih1 _ _)
      | (with_reducible exact ih2 _ _ _ _)
      | (with_reducible exact ih3 _ _ _ _ _)
      | (with_reducible exact ih4 _ _ _)
      | (with_reducible exact ih5 _ _ _ _)
      | (with_reducible exact ih6 _ _ _)
      | (with_reducible exact ih7 _ _ _ _)
      | (with_reducible exact ih8 _ _ _ _ _)
      | (with_reducible exact ih9 _ _ _)
      | (with_reducible exact soffitref01_dec.mono _ _ _ _)
      | (with_reducible exact LeO.refl _)
      | (with_reducible exact LeO.none _)
      | (with_reducible refine LeO.ite ?_ ?_)
      | (with_reducible refine LeO.bind ?_ (fun _ => ?_))
      | exact ih0 _ _
      | exact ih1 _ _
      | exact ih2 _ _ _ _
      | exact ih3 _ _ _ _ _
      | exact ih4 _ _ _
      | exact ih5 _ _ _ _
      | exact ih6 _ _ _
      | exact ih7 _ _ _ _
      | exact ih8 _ _ _ _ _
      | exact ih9 _ _ _
      | exact soffitref01_dec.mono _ _ _ _
      | exact LeO.none _
      | refine LeO.ite ?_ ?_
      | refine LeO.bind ?_ (fun _ => ?_)
    · intro y0 y1 y2
      unfold soffitref01_Parse.j4
      repeat' first
      | (with_reducible exact ih0 _ _)
      | (with_reducible exact ih1 _ _)
      | (with_reducible exact ih2 _ _ _ _)
      | (with_reducible exact ih3 _ _ _ _ _)
      | (with_reducible exact ih4 _ _ _)
      | (with_reducible exact ih5 _ _ _ _)
      | (with_reducible exact ih6 _ _ _)
      | (with_reducible exact ih7 _ _ _ _)
      | (with_reducible exact ih8 _ _ _ _ _)
      | (with_reducible exact ih9 _ _ _)
      | (with_reducible exact soffitref01_dec.mono _ _ _ _)
      | (with_reducible exact LeO.refl _)
      | (with_reducible exact LeO.none _)
      | (with_reducible refine LeO.ite ?_ ?_)
      | (with_reducible refine LeO.bind ?_ (fun _ => ?_))
      | exact ih0 _ _
      | exact ih1 _ _
      | exact ih2 _ _ _ _
      | exact ih3 _ _ _ _ _
      | exact ih4 _ _ _
      | exact ih5 _ _ _ _
      | exact ih6 _ _ _
      | exact ih7 _ _ _ _
      | exact ih8 _ _ _ _ _
      | exact ih9 _ _ _
      | exact soffitref01_dec.mono _ _ _ _
      | exact LeO.none _
      | refine LeO.ite ?_ ?_
      | refine LeO.bind ?_ (fun _ => ?_)
    · intro y0 y1 y2 y3
      unfold soffitref01_Parse.j5
      repeat' first
      | (with_reducible exact ih0 _ _)
      | (with_reducible exact ih1 _ _)
      | (with_reducible exact ih2 _ _ _ _)
      | (with_reducible exact ih3 _ _ _ _ _)
      | (with_reducible exact ih4 _ _ _)
      | (with_reducible exact ih5 _ _ _ _)
      | (with_reducible exact ih6 _ _ _)
      | (with_reducible exact ih7 _ _ _ _)
      | (with_reducible exact ih8 _ _ _ _ _)
      | (with_reducible exact ih9 _ _ _)
      | (with_reducible exact soffitref01_dec.mono _ _ _ _)
      | (with_reducible exact LeO.refl _)
      | (with_reducible exact LeO.none _)
      | (with_reducible refine LeO.ite ?_ ?_)
      | (with_reducible refine LeO.bind ?_ (fun _ => ?_))
      | exact ih0 _ _
      | exact ih1 _ _
      | exact ih2 _ _ _ _
      | exact ih3 _ _ _ _ _
      | exact ih4 _ _ _
      | exact ih5 _ _ _ _
      | exact ih6 _ _ _
      | exact ih7 _ _ _ _
      | exact ih8 _ _ _ _ _
      | exact ih9 _ _ _
      | exact soffitref01_dec.mono _ _ _ _
      | exact LeO.none _
      | refine LeO.ite ?_ ?_
      | refine LeO.bind ?_ (fun _ => ?_)
    · intro y0 y1 y2
      unfold soffitref01_Parse.j7
      repeat' first
      | (with_reducible exact ih0 _ _)
      | (with_reducible exact ih1 _ _)
      | (with_reducible exact ih2 _ _ _ _)
      | (with_reducible exact ih3 _ _ _ _ _)
      | (with_reducible exact ih4 _ _ _)
      | (with_reducible exact ih5 _ _ _ _)
      | (with_reducible exact ih6 _ _ _)
      | (with_reducible exact ih7 _ _ _ _)
      | (with_reducible exact ih8 _ _ _ _ _)
      | (with_reducible exact ih9 _ _ _)
      | (with_reducible exact soffitref01_dec.mono _ _ _ _)
      | (with_reducible exact LeO.refl _)
      | (with_reducible exact LeO.none _)
      | (with_reducible refine LeO.ite ?_ ?_)
      | (with_reducible refine LeO.bind ?_ (fun _ => ?_))
      | exact ih0 _ _
      | exact ih1 _ _
      | exact ih2 _ _ _ _
      | exact ih3 _ _ _ _ _
      | exact ih4 _ _ _
      | exact ih5 _ _ _ _
      | exact ih6 _ _ _
      | exact ih7 _ _ _ _
      | exact ih8 _ _ _ _ _
      | exact ih9 _ _ _
      | exact soffitref01_dec.mono _ _ _ _
      | exact LeO.none _
      | refine LeO.ite ?_ ?_
      | refine LeO.bind ?_ (fun _ => ?_)
    · intro y0 y1 y2 y3
      unfold soffitref01_Parse.j8
      repeat' first
      | (with_reducible exact ih0 _ _)
      | (with_reducible exact ih1 _ _)
      | (with_reducible exact ih2 _ _ _ _)
      | (with_reducible exact ih3 _ _ _ _ _)
      | (with_reducible exact ih4 _ _ _)
      | (with_reducible exact ih5 _ _ _ _)
      | (with_reducible exact ih6 _ _ _)
      | (with_reducible exact ih7 _ _ _ _)
      | (with_reducible exact ih8 _ _ _ _ _)
      | (with_reducible exact ih9 _ _ _)
      | (with_reducible exact soffitref01_dec.mono _ _ _ _)
      | (with_reducible exact LeO.refl _)
      | (with_reducible exact LeO.none _)
      | (with_reducible refine LeO.ite ?_ ?_)
      | (with_reducible refine LeO.bind ?_ (fun _ => ?_))
      | exact ih0 _ _
      | exact ih1 _ _
      | exact ih2 _ _ _ _
      | exact ih3 _ _ _ _ _
      | exact ih4 _ _ _
      | exact ih5 _ _ _ _
      | exact ih6 _ _ _
      | exact ih7 _ _ _ _
      | exact ih8 _ _ _ _ _
      | exact ih9 _ _ _
      | exact soffitref01_dec.mono _ _ _ _
      | exact LeO.none _
      | refine LeO.ite ?_ ?_
      | refine LeO.bind ?_ (fun _ => ?_)
    · intro y0 y1 y2 y3 y4
      unfold soffitref01_Parse.l2
      repeat' first
      | (with_reducible exact ih0 _ _)
      | (with_reducible exact ih1 _ _)
      | (with_reducible exact ih2 _ _ _ _)
      | (with_reducible exact ih3 _ _ _ _ _)
      | (with_reducible exact ih4 _ _ _)
      | (with_reducible exact ih5 _ _ _ _)
      | (with_reducible exact ih6 _ _ _)
      | (with_reducible exact ih7 _ _ _ _)
      | (with_reducible exact ih8 _ _ _ _ _)
      | (with_reducible exact ih9 _ _ _)
      | (with_reducible exact soffitref01_dec.mono _ _ _ _)
      | (with_reducible exact LeO.refl _)
      | (with_reducible exact LeO.none _)
      | (with_reducible refine LeO.ite ?_ ?_)
      | (with_reducible refine LeO.bind ?_ (fun _ => ?_))
      | exact ih0 _ _
      | exact ih1 _ _
      | exact ih2 _ _ _ _
      | exact ih3 _ _ _ _ _
      | exact ih4 _ _ _
      | exact ih5 _ _ _ _
      | exact ih6 _ _ _
      | exact ih7 _ _ _ _
      | exact ih8 _ _ _ _ _
      | exact ih9 _ _ _
      | exact soffitref01_dec.mono _ _ _ _
      | exact LeO.none _
      | refine LeO.ite ?_ ?_
      | refine LeO.bind ?_ (fun _ => ?_)
    · intro y0 y1 y2
      unfold soffitref01_Parse.l1
      repeat' first
      | (with_reducible exact ih0 _ _)
      | (with_reducible exact ih1 _ _)
      | (with_reducible exact ih2 _ _ _ _)
      | (with_reducible exact ih3 _ _ _ _ _)
      | (with_reducible exact ih4 _ _ _)
      | (with_reducible exact ih5 _ _ _ _)
      | (with_reducible exact ih6 _ _ _)
      | (with_reducible exact ih7 _ _ _ _)
      | (with_reducible exact ih8 _ _ _ _ _)
      | (with_reducible exact ih9 _ _ _)
      | (with_reducible exact soffitref01_dec.mono _ _ _ _)
      | (with_reducible exact LeO.refl _)
      | (with_reducible exact LeO.none _)
      | (with_reducible refine LeO.ite ?_ ?_)
      | (with_reducible refine LeO.bind ?_ (fun _ => ?_))
      | exact ih0 _ _
      | exact ih1 _ _
      | exact ih2 _ _ _ _
      | exact ih3 _ _ _ _ _
      | exact ih4 _ _ _
      | exact ih5 _ _ _ _
      | exact ih6 _ _ _
      | exact ih7 _ _ _ _
      | exact ih8 _ _ _ _ _
      | exact ih9 _ _ _
      | exact soffitref01_dec.mono _ _ _ _
      | exact LeO.none _
      | refine LeO.ite ?_ ?_
      | refine LeO.bind ?_ (fun _ => ?_)
theorem soffitref01_Parse.mono : ∀ a0 k, LeO (soffitref01_Parse.f k a0) (soffitref01_Parse.f (k + 1) a0) := by
  intro a0 k
  obtain ⟨ih0, ih1, ih2, ih3, ih4, ih5, ih6, ih7, ih8, ih9⟩ := soffitref01_Parse.mono_l k
  unfold soffitref01_Parse.f
  repeat' first
      | (with_reducible exact ih0 _ _)
      | (with_reducible exact ih1 _ _)
      | (with_reducible exact ih2 _ _ _ _)
      | (with_reducible exact ih3 _ _ _ _ _)
      | (with_reducible exact ih4 _ _ _)
      | (with_reducible exact ih5 _ _ _ _)
      | (with_reducible exact ih6 _ _ _)
      | (with_reducible exact ih7 _ _ _ _)
      | (with_reducible exact ih8 _ _ _ _ _)
      | (with_reducible exact ih9 _ _ _)
      | (with_reducible exact soffitref01_dec.mono _ _ _ _)
      | (with_reducible exact LeO.refl _)
      | (with_reducible exact LeO.none _)
      | (with_reducible refine LeO.ite ?_ ?_)
      | (with_reducible refine LeO.bind ?_ (fun _ => ?_))
      | exact ih0 _ _
      | exact ih1 _ _
      | exact ih2 _ _ _ _
      | exact ih3 _ _ _ _ _
      | exact ih4 _ _ _
      | exact ih5 _ _ _ _
      | exact ih6 _ _ _
      | exact ih7 _ _ _ _
      | exact ih8 _ _ _ _ _
      | exact ih9 _ _ _
      | exact soffitref01_dec.mono _ _ _ _
      | exact LeO.none _
      | refine LeO.ite ?_ ?_
      | refine LeO.bind ?_ (fun _ => ?_)
set_option maxHeartbeats 8000000 in
set_option maxRecDepth 100000 in
theorem soffitref01_Parse.calls (k : Nat) (a0 : ByteArray) (r1 : Int) (r2 : Int) (r3 : Int) (w : World) (h : soffitref01_Parse.f k a0 = some (r1, r2, r3)) :
    Calls Tryd.prog 19 #[.string a0] w fun e w' => e = .returned (.tuple #[.agg #[.int .i64 r1, .int .i64 r2], .int .i64 r3]) ∧ Below w.heap.size w w' := by
  have hu23 := Tryd.underlying23
  have HB := Aside0.mk (Below.refl w.heap.size w)
  have H : (if (a0.size : Int) > 0 then (if 0 < (a0.size : Int) then (soffitref01_Parse.j0 k a0 ((bt a0 0) == 45)) else (none)) else (soffitref01_Parse.j0 k a0 false)) = some (r1, r2, r3) := h
  clear h
  have HC2 := Aside0.mk H
  clear H
  go_enter Tryd.func19, Tryd.ntmps19
  go_upto_region 1 with (first | ((with_reducible refine gate_dst (N := 2) rfl ?_); (try (refine gate_guard (by rfl) ?_; dsimp only)); refine box_event ?hg (N := 2) ?hd (cs := #[.int .i64 0, .int .i64 0]) (t := 23) ?hr ?_; (case hd => rfl); (case hg => rfl); (case hr => first | (go_simp; done) | (go_simp; rfl)); intro gb281 hg w3 hbox hb; have n0_ := Aside0.mk (below_step (by repeat (first | (with_reducible first | exact HB.out | apply below_alloc | apply pw_below_drewN | apply below_drew1) | exact HB.out)) hb); have n1_ := Aside0.mk (hbox); have n2_ := Aside0.mk ((by rw [hg]; exact (below_size (by repeat (first | (with_reducible first | exact HB.out | apply below_alloc | apply pw_below_drewN | apply below_drew1) | exact HB.out))) : w.heap.size ≤ gb281)); have n3_ := Aside0.mk ((by rw [hg]; exact (below_size (by repeat (first | (with_reducible first | exact HB.out | apply below_alloc | apply pw_below_drewN | apply below_drew1) | exact HB.out))) : w.heap.size ≤ gb281)); clear HB; have HB := n0_; have BK281 := n1_; have GW281 := n2_; have GE281 := n3_; clear n0_ n1_ n2_ n3_; clear hb hbox hg))
  repeat (go_quiet (first | ((with_reducible refine gate_dst (N := 2) rfl ?_); (try (refine gate_guard (by rfl) ?_; dsimp only)); refine box_event ?hg (N := 2) ?hd (cs := #[.int .i64 0, .int .i64 0]) (t := 23) ?hr ?_; (case hd => rfl); (case hg => rfl); (case hr => first | (go_simp; done) | (go_simp; rfl)); intro gb281 hg w3 hbox hb; have n0_ := Aside0.mk (below_step (by repeat (first | (with_reducible first | exact HB.out | apply below_alloc | apply pw_below_drewN | apply below_drew1) | exact HB.out)) hb); have n1_ := Aside0.mk (hbox); have n2_ := Aside0.mk ((by rw [hg]; exact (below_size (by repeat (first | (with_reducible first | exact HB.out | apply below_alloc | apply pw_below_drewN | apply below_drew1) | exact HB.out))) : w.heap.size ≤ gb281)); have n3_ := Aside0.mk ((by rw [hg]; exact (below_size (by repeat (first | (with_reducible first | exact HB.out | apply below_alloc | apply pw_below_drewN | apply below_drew1) | exact HB.out))) : w.heap.size ≤ gb281)); clear HB; have HB := n0_; have BK281 := n1_; have GW281 := n2_; have GE281 := n3_; clear n0_ n1_ n2_ n3_; clear hb hbox hg)); go_upto_region 1 with (first | ((with_reducible refine gate_dst (N := 2) rfl ?_); (try (refine gate_guard (by rfl) ?_; dsimp only)); refine box_event ?hg (N := 2) ?hd (cs := #[.int .i64 0, .int .i64 0]) (t := 23) ?hr ?_; (case hd => rfl); (case hg => rfl); (case hr => first | (go_simp; done) | (go_simp; rfl)); intro gb281 hg w3 hbox hb; have n0_ := Aside0.mk (below_step (by repeat (first | (with_reducible first | exact HB.out | apply below_alloc | apply pw_below_drewN | apply below_drew1) | exact HB.out)) hb); have n1_ := Aside0.mk (hbox); have n2_ := Aside0.mk ((by rw [hg]; exact (below_size (by repeat (first | (with_reducible first | exact HB.out | apply below_alloc | apply pw_below_drewN | apply below_drew1) | exact HB.out))) : w.heap.size ≤ gb281)); have n3_ := Aside0.mk ((by rw [hg]; exact (below_size (by repeat (first | (with_reducible first | exact HB.out | apply below_alloc | apply pw_below_drewN | apply below_drew1) | exact HB.out))) : w.heap.size ≤ gb281)); clear HB; have HB := n0_; have BK281 := n1_; have GW281 := n2_; have GE281 := n3_; clear n0_ n1_ n2_ n3_; clear hb hbox hg)))
  (try simp only [Act.put, List.setIfInBounds_toArray, List.set_cons_zero, List.set_cons_succ])
  go_cut [4] (fun v4 wc => ∃ (kq : Nat) (x4_1 : Bool), v4 = .bool x4_1 ∧ Aside0 (soffitref01_Parse.j0 kq a0 x4_1 = some (r1, r2, r3)) ∧ Aside0 (kq ≤ k) ∧ Aside0 (wc.heap[gb281]? = some (.cells #[.int .i64 0, .int .i64 0] 23 (0, 0))) ∧ Aside0 (Below w.heap.size w wc))
  case first =>
    have H := HC2.out
    clear HC2
    by_cases c4 : (a0.size : Int) > 0
    · rw [if_pos c4] at H
      have c4b0 : decide (0 < (a0.size : Int)) = true := decide_eq_true c4
      have c4b1 : decide (0 < a0.size) = true := decide_eq_true (by omega)
      clear c4
      (first | rw [c4b0] | (simp only [i64_w, i32_w]; rw [c4b0]) | skip)
      by_cases c5 : 0 < (a0.size : Int)
      · rw [if_pos c5] at H
        have c5b0 : decide (0 < (a0.size : Int)) = true := decide_eq_true c5
        have c5b1 : decide (0 < a0.size) = true := decide_eq_true (by omega)
        clear c5
        have H' := Aside0.mk H
        clear H
        have p6 : 0 ≤ (0 : Int) := (by omega)
        have q6 : 0 < a0.size := (by have : (0 : Int) < (a0.size : Int) := of_decide_eq_true (by first | (with_reducible assumption) | assumption); omega)
        have hx6 : ∀ h : 0 < a0.size, ((a0[0]'h).toNat : Int) = bt a0 0 := bt_at a0 0
        clear p6
        have qi6 : (0 < (a0.size : Int)) = True := eq_true (of_decide_eq_true (by first | (with_reducible assumption) | assumption))
        replace q6 := eq_true q6
        go_wp2
        repeat (go_quiet (fail); try go_wp2)
        go_meet
        case rel => exact ⟨_, (((bt a0 0) == 45)), (by first | rfl | (simp; done) | (simp [*]; done)), H', ⟨by first | omega | exact Nat.le_refl _⟩, ⟨by (with_reducible repeat (first | refine blk_drewN ?_ _ | refine blk_drew ?_ | refine blk_alloc ?_ _)); exact BK281.out⟩, ⟨by repeat (first | (with_reducible first | exact HB.out | apply below_alloc | apply pw_below_drewN | apply below_drew1 | refine below_set ?_ GE281.out) | exact HB.out)⟩⟩
      · rw [if_neg c5] at H
        exact absurd H (by simp)
    · rw [if_neg c4] at H
      have c4b0 : decide (0 < (a0.size : Int)) = false := decide_eq_false c4
      have c4b1 : decide (0 < a0.size) = false := decide_eq_false (by omega)
      clear c4
      (first | rw [c4b0] | (simp only [i64_w, i32_w]; rw [c4b0]) | skip)
      have H' := Aside0.mk H
      clear H
      go_wp2
      repeat (go_quiet (fail); try go_wp2)
      go_meet
      case rel => exact ⟨_, (false), (by first | rfl | (simp; done) | (simp [*]; done)), H', ⟨by first | omega | exact Nat.le_refl _⟩, ⟨by (with_reducible repeat (first | refine blk_drewN ?_ _ | refine blk_drew ?_ | refine blk_alloc ?_ _)); exact BK281.out⟩, ⟨by repeat (first | (with_reducible first | exact HB.out | apply below_alloc | apply pw_below_drewN | apply below_drew1 | refine below_set ?_ GE281.out) | exact HB.out)⟩⟩
  case rest =>
    clear HC2
    try clear c1
    try clear p2
    try clear c4
    try clear c4b0
    try clear c4b1
    try clear c5
    try clear c5b0
    try clear c5b1
    try clear p6
    try clear q6
    try clear hx6
    try clear qi6
    try clear p6
    try clear q6
    obtain ⟨kq, x4_1, rfl, HA, HJ1, BK281, HB⟩ := hcut
    cases kq with
    | zero => exact absurd HA.out (by simp [soffitref01_Parse.j0])
    | succ kj1 =>
      have H := HA.out
      clear HA
      simp only [soffitref01_Parse.j0] at H
      have HC7 := Aside0.mk H
      clear H
      go_upto_if 20 with (fail)
      repeat (go_quiet (fail); go_upto_if 20 with (fail))
      go_cut [0] (fun v0 wc => ∃ (kq : Nat) (x0_6 : ByteArray), v0 = .string x0_6 ∧ Aside0 (soffitref01_Parse.j1 kq x0_6 x4_1 = some (r1, r2, r3)) ∧ Aside0 (kq ≤ kj1) ∧ Aside0 (wc.heap[gb281]? = some (.cells #[.int .i64 0, .int .i64 0] 23 (0, 0))) ∧ Aside0 (Below w.heap.size w wc))
      case first =>
        have H := HC7.out
        clear HC7
        by_cases c8 : x4_1 = true
        · subst c8
          have H1 : (if 1 ≤ (a0.size : Int) then (soffitref01_Parse.j1 kj1 (a0.extract 1 a0.size) true) else (none)) = some (r1, r2, r3) := by rw [if_pos rfl] at H; exact H
          clear H
          have H := H1
          clear H1
          by_cases c9 : 1 ≤ (a0.size : Int)
          · rw [if_pos c9] at H
            have c9b0 := eq_true c9
            have c9b1 : decide (1 ≤ (a0.size : Int)) = true := decide_eq_true c9
            clear c9
            have H' := Aside0.mk H
            clear H
            go_wp2
            repeat (go_quiet (fail); try go_wp2)
            go_meet
            case rel => exact ⟨_, (a0.extract 1 a0.size), (by first | rfl | (simp; done) | (simp [*]; done)), H', ⟨by have := HJ1.out; first | omega | exact Nat.le_refl _⟩, ⟨by (with_reducible repeat (first | refine blk_drewN ?_ _ | refine blk_drew ?_ | refine blk_alloc ?_ _)); exact BK281.out⟩, ⟨by repeat (first | (with_reducible first | exact HB.out | apply below_alloc | apply pw_below_drewN | apply below_drew1 | refine below_set ?_ GE281.out) | exact HB.out)⟩⟩
          · rw [if_neg c9] at H
            exact absurd H (by simp)
        · replace c8 := Bool.eq_false_iff.mpr c8
          subst c8
          have H1 : (soffitref01_Parse.j1 kj1 a0 false) = some (r1, r2, r3) := by rw [if_neg (show ¬ (false = true) by decide)] at H; exact H
          clear H
          have H := H1
          clear H1
          have H' := Aside0.mk H
          clear H
          go_wp2
          repeat (go_quiet (fail); try go_wp2)
          go_meet
          case rel => exact ⟨_, (a0), (by first | rfl | (simp; done) | (simp [*]; done)), H', ⟨by have := HJ1.out; first | omega | exact Nat.le_refl _⟩, ⟨by (with_reducible repeat (first | refine blk_drewN ?_ _ | refine blk_drew ?_ | refine blk_alloc ?_ _)); exact BK281.out⟩, ⟨by repeat (first | (with_reducible first | exact HB.out | apply below_alloc | apply pw_below_drewN | apply below_drew1 | refine below_set ?_ GE281.out) | exact HB.out)⟩⟩
      case rest =>
        clear HC7
        try clear c1
        try clear p2
        try clear c4
        try clear c4b0
        try clear c4b1
        try clear c5
        try clear c5b0
        try clear c5b1
        try clear p6
        try clear q6
        try clear hx6
        try clear qi6
        try clear c8
        try clear c9
        try clear c9b0
        try clear c9b1
        try clear p2
        try clear p6
        try clear q6
        obtain ⟨kq, x0_6, rfl, HA, HJ6, BK281, HB⟩ := hcut
        cases kq with
        | zero => exact absurd HA.out (by simp [soffitref01_Parse.j1])
        | succ kj6 =>
          have H := HA.out
          clear HA
          simp only [soffitref01_Parse.j1] at H
          have H' := Aside0.mk H
          clear H
          go_wp2
          repeat (go_quiet (fail); try go_wp2)
          (try simp only [Act.put, List.setIfInBounds_toArray, List.set_cons_succ, List.set_cons_zero])
          go_loopg [5, 6] kj6 (fun kq v5 v6 w' => ∃ (x5_3 : Int) (x6_3 : Int) (x282000_3 : Int) (x282001_3 : Int), v5 = .int .i64 x5_3 ∧ v6 = .int .i64 x6_3 ∧ Aside0 (soffitref01_Parse.l0 kq x0_6 x4_1 x5_3 x6_3 = some (r1, r2, r3)) ∧ Aside0 (kq ≤ kj6) ∧ Aside0 (w'.heap[gb281]? = some (.cells #[.int .i64 x282000_3, .int .i64 x282001_3] 23 (0, 0))) ∧ Aside0 (Below w.heap.size w w'))
          case atStart => exact ⟨((-1)), (0), (0), (0), (by first | rfl | (simp; done) | (simp [*]; done)), (by first | rfl | (simp; done) | (simp [*]; done)), H', ⟨Nat.le_refl _⟩, ⟨by (with_reducible repeat (first | refine blk_drewN ?_ _ | refine blk_drew ?_ | refine blk_alloc ?_ _)); exact BK281.out⟩, ⟨by repeat (first | (with_reducible first | exact HB.out | apply below_alloc | apply pw_below_drewN | apply below_drew1 | refine below_set ?_ GE281.out) | exact HB.out)⟩⟩
          case round =>
            clear H'
            try clear c1
            try clear p2
            try clear c4
            try clear c4b0
            try clear c4b1
            try clear c5
            try clear c5b0
            try clear c5b1
            try clear p6
            try clear q6
            try clear hx6
            try clear qi6
            try clear c8
            try clear c9
            try clear c9b0
            try clear c9b1
            try clear p2
            try clear p6
            try clear q6
            obtain ⟨x5_3, x6_3, x282000_3, x282001_3, rfl, rfl, HA, HK3, BK281, HB⟩ := hrel
            cases gk with
            | zero => exact absurd HA.out (by simp [soffitref01_Parse.l0])
            | succ k3 =>
              have H := HA.out
              clear HA
              simp only [soffitref01_Parse.l0] at H
              by_cases c10 : x6_3 < (x0_6.size : Int)
              · rw [if_pos c10] at H
                have c10b0 : decide (x6_3 < (x0_6.size : Int)) = true := decide_eq_true c10
                clear c10
                have HC11 := Aside0.mk H
                clear H
                go_upto_region 8 with (fail)
                repeat (go_quiet (fail); go_upto_region 8 with (fail))
                go_cut [36] (fun v36 wc => ∃ (kq : Nat) (x36_10 : Bool), v36 = .bool x36_10 ∧ Aside0 (soffitref01_Parse.j3 kq x0_6 x4_1 x5_3 x6_3 x36_10 = some (r1, r2, r3)) ∧ Aside0 (kq ≤ k3) ∧ Aside0 (wc.heap[gb281]? = some (.cells #[.int .i64 x282000_3, .int .i64 x282001_3] 23 (0, 0))) ∧ Aside0 (Below w.heap.size w wc))
                case first =>
                  have H := HC11.out
                  clear HC11
                  by_cases c12 : 0 ≤ x6_3
                  · rw [if_pos c12] at H
                    have c12b0 : decide (0 ≤ x6_3) = true := decide_eq_true c12
                    clear c12
                    (first | rw [c12b0] | (simp only [i64_w, i32_w]; rw [c12b0]) | skip)
                    by_cases c14 : (bt x0_6 x6_3) = 46
                    · rw [if_pos c14] at H
                      have c14b0 : ((bt x0_6 x6_3) == 46) = true := beq_iff_eq.mpr c14
                      have c14b1 : ((bt x0_6 x6_3) != 46) = false := bne_eq_false_iff_eq.mpr c14
                      clear c14
                      have H' := Aside0.mk H
                      clear H
                      have p13 : 0 ≤ (x6_3 : Int) := of_decide_eq_true (by first | (with_reducible assumption) | assumption)
                      have q13 : x6_3 < (x0_6.size : Int) := of_decide_eq_true (by first | (with_reducible assumption) | assumption)
                      have hx13 := bt_at x0_6 x6_3
                      replace p13 := eq_true p13
                      replace q13 := eq_true q13
                      go_wp2
                      repeat (go_quiet (fail); try go_wp2)
                      go_meet
                      case rel => exact ⟨_, (decide (x5_3 < 0)), (by first | rfl | (simp; done) | (simp [*]; done)), H', ⟨by have := HJ1.out; have := HJ6.out; have := HK3.out; first | omega | exact Nat.le_refl _⟩, ⟨by (with_reducible repeat (first | refine blk_drewN ?_ _ | refine blk_drew ?_ | refine blk_alloc ?_ _)); exact BK281.out⟩, ⟨by repeat (first | (with_reducible first | exact HB.out | apply below_alloc | apply pw_below_drewN | apply below_drew1 | refine below_set ?_ GE281.out) | exact HB.out)⟩⟩
                    · rw [if_neg c14] at H
                      have c14b0 : ((bt x0_6 x6_3) == 46) = false := beq_eq_false_iff_ne.mpr c14
                      have c14b1 : ((bt x0_6 x6_3) != 46) = true := bne_iff_ne.mpr c14
                      have H' := Aside0.mk H
                      clear H
                      have p13 : 0 ≤ (x6_3 : Int) := of_decide_eq_true (by first | (with_reducible assumption) | assumption)
                      have q13 : x6_3 < (x0_6.size : Int) := of_decide_eq_true (by first | (with_reducible assumption) | assumption)
                      have hx13 := bt_at x0_6 x6_3
                      replace p13 := eq_true p13
                      replace q13 := eq_true q13
                      go_wp2
                      repeat (go_quiet (fail); try go_wp2)
                      go_meet
                      case rel => exact ⟨_, (false), (by first | rfl | (simp; done) | (simp [*]; done)), H', ⟨by have := HJ1.out; have := HJ6.out; have := HK3.out; first | omega | exact Nat.le_refl _⟩, ⟨by (with_reducible repeat (first | refine blk_drewN ?_ _ | refine blk_drew ?_ | refine blk_alloc ?_ _)); exact BK281.out⟩, ⟨by repeat (first | (with_reducible first | exact HB.out | apply below_alloc | apply pw_below_drewN | apply below_drew1 | refine below_set ?_ GE281.out) | exact HB.out)⟩⟩
                  · rw [if_neg c12] at H
                    exact absurd H (by simp)
                case rest =>
                  clear HC11
                  try clear c1
                  try clear p1
                  try clear q1
                  try clear hx1
                  try clear p2
                  try clear c4
                  try clear c4b0
                  try clear c4b1
                  try clear c5
                  try clear c5b0
                  try clear c5b1
                  try clear p6
                  try clear q6
                  try clear hx6
                  try clear qi6
                  try clear c8
                  try clear c9
                  try clear c9b0
                  try clear c9b1
                  try clear c10
                  try clear c10b0
                  try clear c12
                  try clear c12b0
                  try clear p13
                  try clear q13
                  try clear hx13
                  try clear c14
                  try clear c14b0
                  try clear c14b1
                  try clear p13
                  try clear p2
                  try clear p6
                  try clear q13
                  try clear q6
                  obtain ⟨kq, x36_10, rfl, HA, HJ10, BK281, HB⟩ := hcut
                  cases kq with
                  | zero => exact absurd HA.out (by simp [soffitref01_Parse.j3])
                  | succ kj10 =>
                    have H := HA.out
                    clear HA
                    simp only [soffitref01_Parse.j3] at H
                    by_cases c15 : x36_10 = true
                    · subst c15
                      have H1 : (soffitref01_Parse.l0 kj10 x0_6 x4_1 x6_3 (wrap64 (x6_3 + 1))) = some (r1, r2, r3) := by rw [if_pos rfl] at H; exact H
                      clear H
                      have H := H1
                      clear H1
                      have H' := Aside0.mk H
                      clear H
                      go_wp2
                      repeat (go_quiet (fail); try go_wp2)
                      go_roundg kj10
                      case measure => have := HJ1.out; have := HJ6.out; have := HK3.out; have := HJ10.out; omega
                      case rel => exact ⟨(x6_3), (wrap64 (x6_3 + 1)), (x282000_3), (x282001_3), (by first | rfl | (simp; done) | (simp [*]; done)), (by first | rfl | (simp; done) | (simp [*]; done)), H', ⟨by have := HJ1.out; have := HJ6.out; have := HK3.out; have := HJ10.out; omega⟩, ⟨by (with_reducible repeat (first | refine blk_drewN ?_ _ | refine blk_drew ?_ | refine blk_alloc ?_ _)); exact BK281.out⟩, ⟨by repeat (first | (with_reducible first | exact HB.out | apply below_alloc | apply pw_below_drewN | apply below_drew1 | refine below_set ?_ GE281.out) | exact HB.out)⟩⟩
                    · replace c15 := Bool.eq_false_iff.mpr c15
                      subst c15
                      have H1 : (if 0 ≤ x6_3 then (if x6_3 < (x0_6.size : Int) then (if (bt x0_6 x6_3) < 48 then (some (0, 0, 5)) else (if (bt x0_6 x6_3) > 57 then (some (0, 0, 5)) else (soffitref01_Parse.l0 kj10 x0_6 x4_1 x5_3 (wrap64 (x6_3 + 1))))) else (none)) else (none)) = some (r1, r2, r3) := by rw [if_neg (show ¬ (false = true) by decide)] at H; exact H
                      clear H
                      have H := H1
                      clear H1
                      by_cases c16 : 0 ≤ x6_3
                      · rw [if_pos c16] at H
                        have c16b0 : decide (0 ≤ x6_3) = true := decide_eq_true c16
                        clear c16
                        by_cases c17 : x6_3 < (x0_6.size : Int)
                        · rw [if_pos c17] at H
                          have c17b0 : decide (x6_3 < (x0_6.size : Int)) = true := decide_eq_true c17
                          clear c17
                          by_cases c19 : (bt x0_6 x6_3) < 48
                          · rw [if_pos c19] at H
                            have c19b0 : decide ((bt x0_6 x6_3) < 48) = true := decide_eq_true c19
                            clear c19
                            simp only [Option.some.injEq, Prod.mk.injEq] at H
                            obtain ⟨rfl, rfl, rfl⟩ := H
                            have p18 : 0 ≤ (x6_3 : Int) := of_decide_eq_true (by first | (with_reducible assumption) | assumption)
                            have q18 : x6_3 < (x0_6.size : Int) := of_decide_eq_true (by first | (with_reducible assumption) | assumption)
                            have hx18 := bt_at x0_6 x6_3
                            replace p18 := eq_true p18
                            replace q18 := eq_true q18
                            have hcz20_0 : wc.cell? ⟨gb281, 0, none⟩ = some (.int .i64 x282000_3) := (blk_cell BK281.out 0).trans rfl
                            have hcz20_1 : wc.cell? ⟨gb281, 1, none⟩ = some (.int .i64 x282001_3) := (blk_cell BK281.out 1).trans rfl
                            have hfz20_0 := blk_frozen BK281.out 0
                            have hfz20_1 := blk_frozen BK281.out 1
                            go_wp2
                            repeat (go_quiet (fail); try go_wp2)
                            refine bodyPost_ret (results_ct rfl _ _ gb281 23 #[.int .i64 0, .int .i64 0] (0, 0) _ rfl (by (with_reducible repeat (first | refine blk_drewN ?_ _ | refine blk_drew ?_ | refine blk_alloc ?_ _)); refine blk_put (cs := #[.int .i64 0, .int .i64 x282001_3]) ?_ 1 _ rfl; (with_reducible repeat (first | refine blk_drewN ?_ _ | refine blk_drew ?_ | refine blk_alloc ?_ _)); refine blk_put (cs := #[.int .i64 x282000_3, .int .i64 x282001_3]) ?_ 0 _ rfl; (with_reducible repeat (first | refine blk_drewN ?_ _ | refine blk_drew ?_ | refine blk_alloc ?_ _)); exact BK281.out) Tryd.underlying23 rfl (by kernel_rfl)) rfl ?_
                            exact ⟨by first | rfl | (simp [errW_none, errW_some] <;> rfl) | (simp [*, errW_none, errW_some] <;> rfl), by repeat (first | (with_reducible first | exact HB.out | apply below_alloc | apply pw_below_drewN | apply below_drew1 | refine below_set ?_ GE281.out) | exact HB.out)⟩
                          · rw [if_neg c19] at H
                            have c19b0 : decide ((bt x0_6 x6_3) < 48) = false := decide_eq_false c19
                            clear c19
                            by_cases c22 : (bt x0_6 x6_3) > 57
                            · rw [if_pos c22] at H
                              have c22b0 : decide (57 < (bt x0_6 x6_3)) = true := decide_eq_true c22
                              clear c22
                              simp only [Option.some.injEq, Prod.mk.injEq] at H
                              obtain ⟨rfl, rfl, rfl⟩ := H
                              have p18 : 0 ≤ (x6_3 : Int) := of_decide_eq_true (by first | (with_reducible assumption) | assumption)
                              have q18 : x6_3 < (x0_6.size : Int) := of_decide_eq_true (by first | (with_reducible assumption) | assumption)
                              have hx18 := bt_at x0_6 x6_3
                              replace p18 := eq_true p18
                              replace q18 := eq_true q18
                              have p21 : 0 ≤ (x6_3 : Int) := of_decide_eq_true (by first | (with_reducible assumption) | assumption)
                              have q21 : x6_3 < (x0_6.size : Int) := of_decide_eq_true (by first | (with_reducible assumption) | assumption)
                              have hx21 := bt_at x0_6 x6_3
                              replace p21 := eq_true p21
                              replace q21 := eq_true q21
                              have hcz23_0 : wc.cell? ⟨gb281, 0, none⟩ = some (.int .i64 x282000_3) := (blk_cell BK281.out 0).trans rfl
                              have hcz23_1 : wc.cell? ⟨gb281, 1, none⟩ = some (.int .i64 x282001_3) := (blk_cell BK281.out 1).trans rfl
                              have hfz23_0 := blk_frozen BK281.out 0
                              have hfz23_1 := blk_frozen BK281.out 1
                              go_wp2
                              repeat (go_quiet (fail); try go_wp2)
                              refine bodyPost_ret (results_ct rfl _ _ gb281 23 #[.int .i64 0, .int .i64 0] (0, 0) _ rfl (by (with_reducible repeat (first | refine blk_drewN ?_ _ | refine blk_drew ?_ | refine blk_alloc ?_ _)); refine blk_put (cs := #[.int .i64 0, .int .i64 x282001_3]) ?_ 1 _ rfl; (with_reducible repeat (first | refine blk_drewN ?_ _ | refine blk_drew ?_ | refine blk_alloc ?_ _)); refine blk_put (cs := #[.int .i64 x282000_3, .int .i64 x282001_3]) ?_ 0 _ rfl; (with_reducible repeat (first | refine blk_drewN ?_ _ | refine blk_drew ?_ | refine blk_alloc ?_ _)); exact BK281.out) Tryd.underlying23 rfl (by kernel_rfl)) rfl ?_
                              exact ⟨by first | rfl | (simp [errW_none, errW_some] <;> rfl) | (simp [*, errW_none, errW_some] <;> rfl), by repeat (first | (with_reducible first | exact HB.out | apply below_alloc | apply pw_below_drewN | apply below_drew1 | refine below_set ?_ GE281.out) | exact HB.out)⟩
                            · rw [if_neg c22] at H
                              have c22b0 : decide (57 < (bt x0_6 x6_3)) = false := decide_eq_false c22
                              clear c22
                              have H' := Aside0.mk H
                              clear H
                              have p18 : 0 ≤ (x6_3 : Int) := of_decide_eq_true (by first | (with_reducible assumption) | assumption)
                              have q18 : x6_3 < (x0_6.size : Int) := of_decide_eq_true (by first | (with_reducible assumption) | assumption)
                              have hx18 := bt_at x0_6 x6_3
                              replace p18 := eq_true p18
                              replace q18 := eq_true q18
                              have p21 : 0 ≤ (x6_3 : Int) := of_decide_eq_true (by first | (with_reducible assumption) | assumption)
                              have q21 : x6_3 < (x0_6.size : Int) := of_decide_eq_true (by first | (with_reducible assumption) | assumption)
                              have hx21 := bt_at x0_6 x6_3
                              replace p21 := eq_true p21
                              replace q21 := eq_true q21
                              go_wp2
                              repeat (go_quiet (fail); try go_wp2)
                              go_roundg kj10
                              case measure => have := HJ1.out; have := HJ6.out; have := HK3.out; have := HJ10.out; omega
                              case rel => exact ⟨(x5_3), (wrap64 (x6_3 + 1)), (x282000_3), (x282001_3), (by first | rfl | (simp; done) | (simp [*]; done)), (by first | rfl | (simp; done) | (simp [*]; done)), H', ⟨by have := HJ1.out; have := HJ6.out; have := HK3.out; have := HJ10.out; omega⟩, ⟨by (with_reducible repeat (first | refine blk_drewN ?_ _ | refine blk_drew ?_ | refine blk_alloc ?_ _)); exact BK281.out⟩, ⟨by repeat (first | (with_reducible first | exact HB.out | apply below_alloc | apply pw_below_drewN | apply below_drew1 | refine below_set ?_ GE281.out) | exact HB.out)⟩⟩
                        · rw [if_neg c17] at H
                          exact absurd H (by simp)
                      · rw [if_neg c16] at H
                        exact absurd H (by simp)
              · rw [if_neg c10] at H
                have c10b0 : decide (x6_3 < (x0_6.size : Int)) = false := decide_eq_false c10
                clear c10
                have HC24 := Aside0.mk H
                clear H
                go_upto_if 51 with (fail)
                repeat (go_quiet (fail); go_upto_if 51 with (fail))
                go_cut [7, 8] (fun v7 v8 wc => ∃ (kq : Nat) (x7_23 : ByteArray) (x8_23 : ByteArray) (x282000_23 : Int) (x282001_23 : Int), v7 = .string x7_23 ∧ v8 = .string x8_23 ∧ Aside0 (soffitref01_Parse.j4 kq x4_1 x7_23 x8_23 = some (r1, r2, r3)) ∧ Aside0 (kq ≤ k3) ∧ Aside0 (wc.heap[gb281]? = some (.cells #[.int .i64 x282000_23, .int .i64 x282001_23] 23 (0, 0))) ∧ Aside0 (Below w.heap.size w wc))
                case first =>
                  have H := HC24.out
                  clear HC24
                  by_cases c25 : x5_3 ≥ 0
                  · rw [if_pos c25] at H
                    have c25b0 : decide (0 ≤ x5_3) = true := decide_eq_true c25
                    clear c25
                    (first | rw [c25b0] | (simp only [i64_w, i32_w]; rw [c25b0]) | skip)
                    by_cases c26 : 0 ≤ x5_3
                    · rw [if_pos c26] at H
                      have c26b0 := eq_true c26
                      have c26b1 : decide (0 ≤ x5_3) = true := decide_eq_true c26
                      clear c26
                      by_cases c27 : x5_3 ≤ (x0_6.size : Int)
                      · rw [if_pos c27] at H
                        have c27b0 := eq_true c27
                        have c27b1 : decide (x5_3 ≤ (x0_6.size : Int)) = true := decide_eq_true c27
                        clear c27
                        obtain ⟨ji28, hji28⟩ : ∃ j_ : Int, (wrap64 (x5_3 + 1)) = j_ := ⟨_, rfl⟩
                        replace H : (if 0 ≤ (ji28) then (if (ji28) ≤ (x0_6.size : Int) then (if (x0_6.extract ((ji28) : Int).toNat x0_6.size).toList = ([] : List UInt8) then (some (0, 0, 5)) else (soffitref01_Parse.j4 k3 x4_1 (x0_6.extract 0 (x5_3 : Int).toNat) (x0_6.extract ((ji28) : Int).toNat x0_6.size))) else (none)) else (none)) = some (r1, r2, r3) := by first | (rw [hji28] at H; exact H) | (simp only [hji28] at H ⊢; exact H)
                        have hji28w : (IntKind.i64.wrap (x5_3 + 1)) = ji28 := (i64_w _).trans hji28
                        by_cases c29 : 0 ≤ (ji28)
                        · rw [if_pos c29] at H
                          have c29b0 := eq_true c29
                          have c29b1 : decide (0 ≤ (ji28)) = true := decide_eq_true c29
                          clear c29
                          by_cases c30 : (ji28) ≤ (x0_6.size : Int)
                          · rw [if_pos c30] at H
                            have c30b0 := eq_true c30
                            have c30b1 : decide ((ji28) ≤ (x0_6.size : Int)) = true := decide_eq_true c30
                            clear c30
                            by_cases c31 : (x0_6.extract ((ji28) : Int).toNat x0_6.size).toList = ([] : List UInt8)
                            · rw [if_pos c31] at H
                              have c31b0 : ((x0_6.extract ((ji28) : Int).toNat x0_6.size).toList == ([] : List UInt8)) = true := beq_iff_eq.mpr c31
                              have c31b1 : ((x0_6.extract ((ji28) : Int).toNat x0_6.size).toList != ([] : List UInt8)) = false := bne_eq_false_iff_eq.mpr c31
                              clear c31
                              simp only [Option.some.injEq, Prod.mk.injEq] at H
                              obtain ⟨rfl, rfl, rfl⟩ := H
                              have hcz32_0 : wr.cell? ⟨gb281, 0, none⟩ = some (.int .i64 x282000_3) := (blk_cell BK281.out 0).trans rfl
                              have hcz32_1 : wr.cell? ⟨gb281, 1, none⟩ = some (.int .i64 x282001_3) := (blk_cell BK281.out 1).trans rfl
                              have hfz32_0 := blk_frozen BK281.out 0
                              have hfz32_1 := blk_frozen BK281.out 1
                              go_wp2
                              repeat (go_quiet (fail); try go_wp2)
                              refine bodyPost_ret (results_ct rfl _ _ gb281 23 #[.int .i64 0, .int .i64 0] (0, 0) _ rfl (by (with_reducible repeat (first | refine blk_drewN ?_ _ | refine blk_drew ?_ | refine blk_alloc ?_ _)); refine blk_put (cs := #[.int .i64 0, .int .i64 x282001_3]) ?_ 1 _ rfl; (with_reducible repeat (first | refine blk_drewN ?_ _ | refine blk_drew ?_ | refine blk_alloc ?_ _)); refine blk_put (cs := #[.int .i64 x282000_3, .int .i64 x282001_3]) ?_ 0 _ rfl; (with_reducible repeat (first | refine blk_drewN ?_ _ | refine blk_drew ?_ | refine blk_alloc ?_ _)); exact BK281.out) Tryd.underlying23 rfl (by kernel_rfl)) rfl ?_
                              exact ⟨by first | rfl | (simp [errW_none, errW_some] <;> rfl) | (simp only [← hji28]; first | rfl | (simp [errW_none, errW_some] <;> rfl)) | (simp [*, errW_none, errW_some] <;> rfl), by repeat (first | (with_reducible first | exact HB.out | apply below_alloc | apply pw_below_drewN | apply below_drew1 | refine below_set ?_ GE281.out) | exact HB.out)⟩
                            · rw [if_neg c31] at H
                              have c31b0 : ((x0_6.extract ((ji28) : Int).toNat x0_6.size).toList == ([] : List UInt8)) = false := beq_eq_false_iff_ne.mpr c31
                              have c31b1 : ((x0_6.extract ((ji28) : Int).toNat x0_6.size).toList != ([] : List UInt8)) = true := bne_iff_ne.mpr c31
                              have H' := Aside0.mk H
                              clear H
                              go_wp2
                              repeat (go_quiet (fail); try go_wp2)
                              go_meet
                              case rel => exact ⟨_, (x0_6.extract 0 (x5_3 : Int).toNat), (x0_6.extract ((ji28) : Int).toNat x0_6.size), (x282000_3), (x282001_3), (by first | rfl | (simp; done) | (simp [*]; done)), (by first | rfl | (simp; done) | (simp only [← hji28] <;> (first | rfl | simp)) | (simp [*]; done)), H', ⟨by have := HJ1.out; have := HJ6.out; have := HK3.out; first | omega | exact Nat.le_refl _⟩, ⟨by (with_reducible repeat (first | refine blk_drewN ?_ _ | refine blk_drew ?_ | refine blk_alloc ?_ _)); exact BK281.out⟩, ⟨by repeat (first | (with_reducible first | exact HB.out | apply below_alloc | apply pw_below_drewN | apply below_drew1 | refine below_set ?_ GE281.out) | exact HB.out)⟩⟩
                          · rw [if_neg c30] at H
                            exact absurd H (by simp)
                        · rw [if_neg c29] at H
                          exact absurd H (by simp)
                      · rw [if_neg c27] at H
                        exact absurd H (by simp)
                    · rw [if_neg c26] at H
                      exact absurd H (by simp)
                  · rw [if_neg c25] at H
                    have c25b0 : decide (0 ≤ x5_3) = false := decide_eq_false c25
                    clear c25
                    (first | rw [c25b0] | (simp only [i64_w, i32_w]; rw [c25b0]) | skip)
                    have H' := Aside0.mk H
                    clear H
                    go_wp2
                    repeat (go_quiet (fail); try go_wp2)
                    go_meet
                    case rel => exact ⟨_, (x0_6), ((⟨#[]⟩ : ByteArray)), (x282000_3), (x282001_3), (by first | rfl | (simp; done) | (simp [*]; done)), (by first | rfl | (simp; done) | (simp [*]; done)), H', ⟨by have := HJ1.out; have := HJ6.out; have := HK3.out; first | omega | exact Nat.le_refl _⟩, ⟨by (with_reducible repeat (first | refine blk_drewN ?_ _ | refine blk_drew ?_ | refine blk_alloc ?_ _)); exact BK281.out⟩, ⟨by repeat (first | (with_reducible first | exact HB.out | apply below_alloc | apply pw_below_drewN | apply below_drew1 | refine below_set ?_ GE281.out) | exact HB.out)⟩⟩
                case rest =>
                  clear HC24
                  try clear c1
                  try clear p1
                  try clear q1
                  try clear hx1
                  try clear c2
                  try clear p2
                  try clear q2
                  try clear hx2
                  try clear c3
                  try clear c4
                  try clear c4b0
                  try clear c4b1
                  try clear c5
                  try clear c5b0
                  try clear c5b1
                  try clear p6
                  try clear q6
                  try clear hx6
                  try clear qi6
                  try clear c8
                  try clear c9
                  try clear c9b0
                  try clear c9b1
                  try clear c10
                  try clear c10b0
                  try clear c12
                  try clear c12b0
                  try clear p13
                  try clear q13
                  try clear hx13
                  try clear c14
                  try clear c14b0
                  try clear c14b1
                  try clear c15
                  try clear c16
                  try clear c16b0
                  try clear c17
                  try clear c17b0
                  try clear p18
                  try clear q18
                  try clear hx18
                  try clear c19
                  try clear c19b0
                  try clear p21
                  try clear q21
                  try clear hx21
                  try clear c22
                  try clear c22b0
                  try clear c25
                  try clear c25b0
                  try clear c26
                  try clear c26b0
                  try clear c26b1
                  try clear c27
                  try clear c27b0
                  try clear c27b1
                  try clear c29
                  try clear c29b0
                  try clear c29b1
                  try clear c30
                  try clear c30b0
                  try clear c30b1
                  try clear c31
                  try clear c31b0
                  try clear c31b1
                  try clear hcz20_0
                  try clear hcz20_1
                  try clear hcz23_0
                  try clear hcz23_1
                  try clear hcz32_0
                  try clear hcz32_1
                  try clear hfz20_0
                  try clear hfz20_1
                  try clear hfz23_0
                  try clear hfz23_1
                  try clear hfz32_0
                  try clear hfz32_1
                  try clear p1
                  try clear p13
                  try clear p18
                  try clear p2
                  try clear p21
                  try clear p6
                  try clear q1
                  try clear q13
                  try clear q18
                  try clear q21
                  try clear q6
                  obtain ⟨kq, x7_23, x8_23, x282000_23, x282001_23, rfl, rfl, HA, HJ23, BK281, HB⟩ := hcut
                  cases kq with
                  | zero => exact absurd HA.out (by simp [soffitref01_Parse.j4])
                  | succ kj23 =>
                    have H := HA.out
                    clear HA
                    simp only [soffitref01_Parse.j4] at H
                    have HC33 := Aside0.mk H
                    clear H
                    go_upto_region 17 with (fail)
                    repeat (go_quiet (fail); go_upto_region 17 with (fail))
                    go_cut [73] (fun v73 wc => ∃ (kq : Nat) (x73_32 : Bool), v73 = .bool x73_32 ∧ Aside0 (soffitref01_Parse.j5 kq x4_1 x7_23 x8_23 x73_32 = some (r1, r2, r3)) ∧ Aside0 (kq ≤ kj23) ∧ Aside0 (wc.heap[gb281]? = some (.cells #[.int .i64 x282000_23, .int .i64 x282001_23] 23 (0, 0))) ∧ Aside0 (Below w.heap.size w wc))
                    case first =>
                      have H := HC33.out
                      clear HC33
                      by_cases c34 : x7_23.toList = ([] : List UInt8)
                      · rw [if_pos c34] at H
                        have c34b0 : (x7_23.toList == ([] : List UInt8)) = true := beq_iff_eq.mpr c34
                        have c34b1 : (x7_23.toList != ([] : List UInt8)) = false := bne_eq_false_iff_eq.mpr c34
                        clear c34
                        (first | rw [c34b0] | (simp only [i64_w, i32_w]; rw [c34b0]) | skip)
                        have H' := Aside0.mk H
                        clear H
                        go_wp2
                        repeat (go_quiet (fail); try go_wp2)
                        go_meet
                        case rel => exact ⟨_, (true), (by first | rfl | (simp; done) | (simp [*]; done)), H', ⟨by have := HJ1.out; have := HJ6.out; have := HK3.out; have := HJ23.out; first | omega | exact Nat.le_refl _⟩, ⟨by (with_reducible repeat (first | refine blk_drewN ?_ _ | refine blk_drew ?_ | refine blk_alloc ?_ _)); exact BK281.out⟩, ⟨by repeat (first | (with_reducible first | exact HB.out | apply below_alloc | apply pw_below_drewN | apply below_drew1 | refine below_set ?_ GE281.out) | exact HB.out)⟩⟩
                      · rw [if_neg c34] at H
                        have c34b0 : (x7_23.toList == ([] : List UInt8)) = false := beq_eq_false_iff_ne.mpr c34
                        have c34b1 : (x7_23.toList != ([] : List UInt8)) = true := bne_iff_ne.mpr c34
                        (first | rw [c34b0] | (simp only [i64_w, i32_w]; rw [c34b0]) | skip)
                        by_cases c35 : (x7_23.size : Int) > 1
                        · rw [if_pos c35] at H
                          have c35b0 : decide (1 < (x7_23.size : Int)) = true := decide_eq_true c35
                          have c35b1 : decide (1 < x7_23.size) = true := decide_eq_true (by omega)
                          clear c35
                          by_cases c36 : 0 < (x7_23.size : Int)
                          · rw [if_pos c36] at H
                            have c36b0 : decide (0 < (x7_23.size : Int)) = true := decide_eq_true c36
                            have c36b1 : decide (0 < x7_23.size) = true := decide_eq_true (by omega)
                            clear c36
                            have H' := Aside0.mk H
                            clear H
                            have p37 : 0 ≤ (0 : Int) := (by omega)
                            have q37 : 0 < x7_23.size := (by have : (0 : Int) < (x7_23.size : Int) := of_decide_eq_true (by first | (with_reducible assumption) | assumption); omega)
                            have hx37 : ∀ h : 0 < x7_23.size, ((x7_23[0]'h).toNat : Int) = bt x7_23 0 := bt_at x7_23 0
                            clear p37
                            have qi37 : (0 < (x7_23.size : Int)) = True := eq_true (of_decide_eq_true (by first | (with_reducible assumption) | assumption))
                            replace q37 := eq_true q37
                            go_wp2
                            repeat (go_quiet (fail); try go_wp2)
                            go_meet
                            case rel => exact ⟨_, (((bt x7_23 0) == 48)), (by first | rfl | (simp; done) | (simp [*]; done)), H', ⟨by have := HJ1.out; have := HJ6.out; have := HK3.out; have := HJ23.out; first | omega | exact Nat.le_refl _⟩, ⟨by (with_reducible repeat (first | refine blk_drewN ?_ _ | refine blk_drew ?_ | refine blk_alloc ?_ _)); exact BK281.out⟩, ⟨by repeat (first | (with_reducible first | exact HB.out | apply below_alloc | apply pw_below_drewN | apply below_drew1 | refine below_set ?_ GE281.out) | exact HB.out)⟩⟩
                          · rw [if_neg c36] at H
                            exact absurd H (by simp)
                        · rw [if_neg c35] at H
                          have c35b0 : decide (1 < (x7_23.size : Int)) = false := decide_eq_false c35
                          have c35b1 : decide (1 < x7_23.size) = false := decide_eq_false (by omega)
                          clear c35
                          have H' := Aside0.mk H
                          clear H
                          go_wp2
                          repeat (go_quiet (fail); try go_wp2)
                          go_meet
                          case rel => exact ⟨_, (false), (by first | rfl | (simp; done) | (simp [*]; done)), H', ⟨by have := HJ1.out; have := HJ6.out; have := HK3.out; have := HJ23.out; first | omega | exact Nat.le_refl _⟩, ⟨by (with_reducible repeat (first | refine blk_drewN ?_ _ | refine blk_drew ?_ | refine blk_alloc ?_ _)); exact BK281.out⟩, ⟨by repeat (first | (with_reducible first | exact HB.out | apply below_alloc | apply pw_below_drewN | apply below_drew1 | refine below_set ?_ GE281.out) | exact HB.out)⟩⟩
                    case rest =>
                      clear HC33
                      try clear c1
                      try clear p1
                      try clear q1
                      try clear hx1
                      try clear c2
                      try clear p2
                      try clear q2
                      try clear hx2
                      try clear c3
                      try clear p3
                      try clear q3
                      try clear hx3
                      try clear qi3
                      try clear c4
                      try clear c4b0
                      try clear c4b1
                      try clear c5
                      try clear c5b0
                      try clear c5b1
                      try clear p6
                      try clear q6
                      try clear hx6
                      try clear qi6
                      try clear c8
                      try clear c9
                      try clear c9b0
                      try clear c9b1
                      try clear c10
                      try clear c10b0
                      try clear c12
                      try clear c12b0
                      try clear p13
                      try clear q13
                      try clear hx13
                      try clear c14
                      try clear c14b0
                      try clear c14b1
                      try clear c15
                      try clear c16
                      try clear c16b0
                      try clear c17
                      try clear c17b0
                      try clear p18
                      try clear q18
                      try clear hx18
                      try clear c19
                      try clear c19b0
                      try clear p21
                      try clear q21
                      try clear hx21
                      try clear c22
                      try clear c22b0
                      try clear c25
                      try clear c25b0
                      try clear c26
                      try clear c26b0
                      try clear c26b1
                      try clear c27
                      try clear c27b0
                      try clear c27b1
                      try clear c29
                      try clear c29b0
                      try clear c29b1
                      try clear c30
                      try clear c30b0
                      try clear c30b1
                      try clear c31
                      try clear c31b0
                      try clear c31b1
                      try clear c34
                      try clear c34b0
                      try clear c34b1
                      try clear c35
                      try clear c35b0
                      try clear c35b1
                      try clear c36
                      try clear c36b0
                      try clear c36b1
                      try clear p37
                      try clear q37
                      try clear hx37
                      try clear qi37
                      try clear hcz20_0
                      try clear hcz20_1
                      try clear hcz23_0
                      try clear hcz23_1
                      try clear hcz32_0
                      try clear hcz32_1
                      try clear hfz20_0
                      try clear hfz20_1
                      try clear hfz23_0
                      try clear hfz23_1
                      try clear hfz32_0
                      try clear hfz32_1
                      try clear p1
                      try clear p13
                      try clear p18
                      try clear p2
                      try clear p21
                      try clear p37
                      try clear p6
                      try clear q1
                      try clear q13
                      try clear q18
                      try clear q2
                      try clear q21
                      try clear q37
                      try clear q6
                      obtain ⟨kq, x73_32, rfl, HA, HJ32, BK281, HB⟩ := hcut
                      cases kq with
                      | zero => exact absurd HA.out (by simp [soffitref01_Parse.j5])
                      | succ kj32 =>
                        have H := HA.out
                        clear HA
                        simp only [soffitref01_Parse.j5] at H
                        by_cases c38 : x73_32 = true
                        · subst c38
                          have H1 : (some (0, 0, 5)) = some (r1, r2, r3) := by rw [if_pos rfl] at H; exact H
                          clear H
                          have H := H1
                          clear H1
                          simp only [Option.some.injEq, Prod.mk.injEq] at H
                          obtain ⟨rfl, rfl, rfl⟩ := H
                          have hcz39_0 : wc.cell? ⟨gb281, 0, none⟩ = some (.int .i64 x282000_23) := (blk_cell BK281.out 0).trans rfl
                          have hcz39_1 : wc.cell? ⟨gb281, 1, none⟩ = some (.int .i64 x282001_23) := (blk_cell BK281.out 1).trans rfl
                          have hfz39_0 := blk_frozen BK281.out 0
                          have hfz39_1 := blk_frozen BK281.out 1
                          go_wp2
                          repeat (go_quiet (fail); try go_wp2)
                          refine bodyPost_ret (results_ct rfl _ _ gb281 23 #[.int .i64 0, .int .i64 0] (0, 0) _ rfl (by (with_reducible repeat (first | refine blk_drewN ?_ _ | refine blk_drew ?_ | refine blk_alloc ?_ _)); refine blk_put (cs := #[.int .i64 0, .int .i64 x282001_23]) ?_ 1 _ rfl; (with_reducible repeat (first | refine blk_drewN ?_ _ | refine blk_drew ?_ | refine blk_alloc ?_ _)); refine blk_put (cs := #[.int .i64 x282000_23, .int .i64 x282001_23]) ?_ 0 _ rfl; (with_reducible repeat (first | refine blk_drewN ?_ _ | refine blk_drew ?_ | refine blk_alloc ?_ _)); exact BK281.out) Tryd.underlying23 rfl (by kernel_rfl)) rfl ?_
                          exact ⟨by first | rfl | (simp [errW_none, errW_some] <;> rfl) | (simp [*, errW_none, errW_some] <;> rfl), by repeat (first | (with_reducible first | exact HB.out | apply below_alloc | apply pw_below_drewN | apply below_drew1 | refine below_set ?_ GE281.out) | exact HB.out)⟩
                        · replace c38 := Bool.eq_false_iff.mpr c38
                          subst c38
                          have H1 : (soffitref01_Parse.l1 kj32 x4_1 x7_23 x8_23) = some (r1, r2, r3) := by rw [if_neg (show ¬ (false = true) by decide)] at H; exact H
                          clear H
                          have H := H1
                          clear H1
                          have HC40 := Aside0.mk H
                          clear H
                          go_upto_block 2 with (fail)
                          repeat (go_quiet (fail); go_upto_block 2 with (fail))
                          go_cut [8] (fun v8 wc => ∃ (kq : Nat) (x8_39 : ByteArray), v8 = .string x8_39 ∧ Aside0 (soffitref01_Parse.j7 kq x4_1 x7_23 x8_39 = some (r1, r2, r3)) ∧ Aside0 (kq ≤ kj32) ∧ Aside0 (wc.heap[gb281]? = some (.cells #[.int .i64 x282000_23, .int .i64 x282001_23] 23 (0, 0))) ∧ Aside0 (Below w.heap.size w wc))
                          case first =>
                            have H := HC40.out
                            clear HC40
                            have H' := Aside0.mk H
                            clear H
                            go_wp2
                            repeat (go_quiet (fail); try go_wp2)
                            (try simp only [Act.put, List.setIfInBounds_toArray, List.set_cons_succ, List.set_cons_zero])
                            go_loopg [8] kj32 (fun kq v8 w' => ∃ (x8_6 : ByteArray), v8 = .string x8_6 ∧ Aside0 (soffitref01_Parse.l1 kq x4_1 x7_23 x8_6 = some (r1, r2, r3)) ∧ Aside0 (kq ≤ kj32) ∧ Aside0 (w'.heap[gb281]? = some (.cells #[.int .i64 x282000_23, .int .i64 x282001_23] 23 (0, 0))) ∧ Aside0 (Below w.heap.size w w'))
                            case atStart => exact ⟨(x8_23), (by first | rfl | (simp; done) | (simp [*]; done)), H', ⟨Nat.le_refl _⟩, ⟨by (with_reducible repeat (first | refine blk_drewN ?_ _ | refine blk_drew ?_ | refine blk_alloc ?_ _)); exact BK281.out⟩, ⟨by repeat (first | (with_reducible first | exact HB.out | apply below_alloc | apply pw_below_drewN | apply below_drew1 | refine below_set ?_ GE281.out) | exact HB.out)⟩⟩
                            case round =>
                              clear H'
                              try clear c1
                              try clear p1
                              try clear q1
                              try clear hx1
                              try clear c2
                              try clear p2
                              try clear q2
                              try clear hx2
                              try clear c3
                              try clear p3
                              try clear q3
                              try clear hx3
                              try clear qi3
                              try clear c4
                              try clear c4b0
                              try clear c4b1
                              try clear c5
                              try clear c5b0
                              try clear c5b1
                              try clear p6
                              try clear q6
                              try clear hx6
                              try clear qi6
                              try clear c8
                              try clear c9
                              try clear c9b0
                              try clear c9b1
                              try clear c10
                              try clear c10b0
                              try clear c12
                              try clear c12b0
                              try clear p13
                              try clear q13
                              try clear hx13
                              try clear c14
                              try clear c14b0
                              try clear c14b1
                              try clear c15
                              try clear c16
                              try clear c16b0
                              try clear c17
                              try clear c17b0
                              try clear p18
                              try clear q18
                              try clear hx18
                              try clear c19
                              try clear c19b0
                              try clear p21
                              try clear q21
                              try clear hx21
                              try clear c22
                              try clear c22b0
                              try clear c25
                              try clear c25b0
                              try clear c26
                              try clear c26b0
                              try clear c26b1
                              try clear c27
                              try clear c27b0
                              try clear c27b1
                              try clear c29
                              try clear c29b0
                              try clear c29b1
                              try clear c30
                              try clear c30b0
                              try clear c30b1
                              try clear c31
                              try clear c31b0
                              try clear c31b1
                              try clear c34
                              try clear c34b0
                              try clear c34b1
                              try clear c35
                              try clear c35b0
                              try clear c35b1
                              try clear c36
                              try clear c36b0
                              try clear c36b1
                              try clear p37
                              try clear q37
                              try clear hx37
                              try clear qi37
                              try clear c38
                              try clear hcz20_0
                              try clear hcz20_1
                              try clear hcz23_0
                              try clear hcz23_1
                              try clear hcz32_0
                              try clear hcz32_1
                              try clear hcz39_0
                              try clear hcz39_1
                              try clear hfz20_0
                              try clear hfz20_1
                              try clear hfz23_0
                              try clear hfz23_1
                              try clear hfz32_0
                              try clear hfz32_1
                              try clear hfz39_0
                              try clear hfz39_1
                              try clear p1
                              try clear p13
                              try clear p18
                              try clear p2
                              try clear p21
                              try clear p3
                              try clear p37
                              try clear p6
                              try clear q1
                              try clear q13
                              try clear q18
                              try clear q2
                              try clear q21
                              try clear q3
                              try clear q37
                              try clear q6
                              obtain ⟨x8_6, rfl, HA, HK6, BK281, HB⟩ := hrel
                              cases gk with
                              | zero => exact absurd HA.out (by simp [soffitref01_Parse.l1])
                              | succ k6 =>
                                have H := HA.out
                                clear HA
                                simp only [soffitref01_Parse.l1] at H
                                by_cases c41 : (x8_6.size : Int) > 0
                                · rw [if_pos c41] at H
                                  have c41b0 : decide (0 < (x8_6.size : Int)) = true := decide_eq_true c41
                                  have c41b1 : decide (0 < x8_6.size) = true := decide_eq_true (by omega)
                                  clear c41
                                  (first | rw [c41b0] | (simp only [i64_w, i32_w]; rw [c41b0]) | skip)
                                  obtain ⟨ji42, hji42⟩ : ∃ j_ : Int, (wrap64 ((x8_6.size : Int) - 1)) = j_ := ⟨_, rfl⟩
                                  replace H : (if 0 ≤ (ji42) then (if (ji42) < (x8_6.size : Int) then (if (bt x8_6 (ji42)) = 48 then (if (ji42) ≤ (x8_6.size : Int) then (soffitref01_Parse.l1 k6 x4_1 x7_23 (x8_6.extract 0 ((ji42) : Int).toNat)) else (none)) else (soffitref01_Parse.j7 k6 x4_1 x7_23 x8_6)) else (none)) else (none)) = some (r1, r2, r3) := by first | (rw [hji42] at H; exact H) | (simp only [hji42] at H ⊢; exact H)
                                  have hji42w : (IntKind.i64.wrap ((x8_6.size : Int) - 1)) = ji42 := (i64_w _).trans hji42
                                  by_cases c43 : 0 ≤ (ji42)
                                  · rw [if_pos c43] at H
                                    have c43b0 : decide (0 ≤ (ji42)) = true := decide_eq_true c43
                                    clear c43
                                    by_cases c44 : (ji42) < (x8_6.size : Int)
                                    · rw [if_pos c44] at H
                                      have c44b0 : decide ((ji42) < (x8_6.size : Int)) = true := decide_eq_true c44
                                      clear c44
                                      by_cases c46 : (bt x8_6 (ji42)) = 48
                                      · rw [if_pos c46] at H
                                        have c46b0 : ((bt x8_6 (ji42)) == 48) = true := beq_iff_eq.mpr c46
                                        have c46b1 : ((bt x8_6 (ji42)) != 48) = false := bne_eq_false_iff_eq.mpr c46
                                        clear c46
                                        have c47b0 := eq_true (of_decide_eq_true (by first | (with_reducible assumption) | assumption) : 0 ≤ (ji42))
                                        by_cases c48 : (ji42) ≤ (x8_6.size : Int)
                                        · rw [if_pos c48] at H
                                          have c48b0 := eq_true c48
                                          have c48b1 : decide ((ji42) ≤ (x8_6.size : Int)) = true := decide_eq_true c48
                                          clear c48
                                          have H' := Aside0.mk H
                                          clear H
                                          have p45 : 0 ≤ ((ji42) : Int) := of_decide_eq_true (by first | (with_reducible assumption) | assumption)
                                          have q45 : (ji42) < (x8_6.size : Int) := of_decide_eq_true (by first | (with_reducible assumption) | assumption)
                                          have hx45 := bt_at x8_6 (ji42)
                                          replace p45 := eq_true p45
                                          replace q45 := eq_true q45
                                          go_wp2
                                          repeat (go_quiet (fail); try go_wp2)
                                          go_roundg k6
                                          case measure => have := HJ1.out; have := HJ6.out; have := HK3.out; have := HJ23.out; have := HJ32.out; have := HK6.out; omega
                                          case rel => exact ⟨(x8_6.extract 0 ((ji42) : Int).toNat), (by first | rfl | (simp; done) | (simp only [← hji42] <;> (first | rfl | simp)) | (simp [*]; done)), H', ⟨by have := HJ1.out; have := HJ6.out; have := HK3.out; have := HJ23.out; have := HJ32.out; have := HK6.out; omega⟩, ⟨by (with_reducible repeat (first | refine blk_drewN ?_ _ | refine blk_drew ?_ | refine blk_alloc ?_ _)); exact BK281.out⟩, ⟨by repeat (first | (with_reducible first | exact HB.out | apply below_alloc | apply pw_below_drewN | apply below_drew1 | refine below_set ?_ GE281.out) | exact HB.out)⟩⟩
                                        · rw [if_neg c48] at H
                                          exact absurd H (by simp)
                                      · rw [if_neg c46] at H
                                        have c46b0 : ((bt x8_6 (ji42)) == 48) = false := beq_eq_false_iff_ne.mpr c46
                                        have c46b1 : ((bt x8_6 (ji42)) != 48) = true := bne_iff_ne.mpr c46
                                        have H' := Aside0.mk H
                                        clear H
                                        have p45 : 0 ≤ ((ji42) : Int) := of_decide_eq_true (by first | (with_reducible assumption) | assumption)
                                        have q45 : (ji42) < (x8_6.size : Int) := of_decide_eq_true (by first | (with_reducible assumption) | assumption)
                                        have hx45 := bt_at x8_6 (ji42)
                                        replace p45 := eq_true p45
                                        replace q45 := eq_true q45
                                        go_wp2
                                        repeat (go_quiet (fail); try go_wp2)
                                        go_meet
                                        case rel => exact ⟨_, (x8_6), (by first | rfl | (simp; done) | (simp [*]; done)), H', ⟨by have := HJ1.out; have := HJ6.out; have := HK3.out; have := HJ23.out; have := HJ32.out; have := HK6.out; first | omega | exact Nat.le_refl _⟩, ⟨by (with_reducible repeat (first | refine blk_drewN ?_ _ | refine blk_drew ?_ | refine blk_alloc ?_ _)); exact BK281.out⟩, ⟨by repeat (first | (with_reducible first | exact HB.out | apply below_alloc | apply pw_below_drewN | apply below_drew1 | refine below_set ?_ GE281.out) | exact HB.out)⟩⟩
                                    · rw [if_neg c44] at H
                                      exact absurd H (by simp)
                                  · rw [if_neg c43] at H
                                    exact absurd H (by simp)
                                · rw [if_neg c41] at H
                                  have c41b0 : decide (0 < (x8_6.size : Int)) = false := decide_eq_false c41
                                  have c41b1 : decide (0 < x8_6.size) = false := decide_eq_false (by omega)
                                  clear c41
                                  (first | rw [c41b0] | (simp only [i64_w, i32_w]; rw [c41b0]) | skip)
                                  have H' := Aside0.mk H
                                  clear H
                                  go_wp2
                                  repeat (go_quiet (fail); try go_wp2)
                                  go_meet
                                  case rel => exact ⟨_, (x8_6), (by first | rfl | (simp; done) | (simp [*]; done)), H', ⟨by have := HJ1.out; have := HJ6.out; have := HK3.out; have := HJ23.out; have := HJ32.out; have := HK6.out; first | omega | exact Nat.le_refl _⟩, ⟨by (with_reducible repeat (first | refine blk_drewN ?_ _ | refine blk_drew ?_ | refine blk_alloc ?_ _)); exact BK281.out⟩, ⟨by repeat (first | (with_reducible first | exact HB.out | apply below_alloc | apply pw_below_drewN | apply below_drew1 | refine below_set ?_ GE281.out) | exact HB.out)⟩⟩
                          case rest =>
                            clear HC40
                            try clear c1
                            try clear p1
                            try clear q1
                            try clear hx1
                            try clear c2
                            try clear p2
                            try clear q2
                            try clear hx2
                            try clear c3
                            try clear p3
                            try clear q3
                            try clear hx3
                            try clear qi3
                            try clear c4
                            try clear c4b0
                            try clear c4b1
                            try clear p4
                            try clear q4
                            try clear hx4
                            try clear c5
                            try clear c5b0
                            try clear c5b1
                            try clear p6
                            try clear q6
                            try clear hx6
                            try clear qi6
                            try clear c8
                            try clear c9
                            try clear c9b0
                            try clear c9b1
                            try clear c10
                            try clear c10b0
                            try clear c12
                            try clear c12b0
                            try clear p13
                            try clear q13
                            try clear hx13
                            try clear c14
                            try clear c14b0
                            try clear c14b1
                            try clear c15
                            try clear c16
                            try clear c16b0
                            try clear c17
                            try clear c17b0
                            try clear p18
                            try clear q18
                            try clear hx18
                            try clear c19
                            try clear c19b0
                            try clear p21
                            try clear q21
                            try clear hx21
                            try clear c22
                            try clear c22b0
                            try clear c25
                            try clear c25b0
                            try clear c26
                            try clear c26b0
                            try clear c26b1
                            try clear c27
                            try clear c27b0
                            try clear c27b1
                            try clear c29
                            try clear c29b0
                            try clear c29b1
                            try clear c30
                            try clear c30b0
                            try clear c30b1
                            try clear c31
                            try clear c31b0
                            try clear c31b1
                            try clear c34
                            try clear c34b0
                            try clear c34b1
                            try clear c35
                            try clear c35b0
                            try clear c35b1
                            try clear c36
                            try clear c36b0
                            try clear c36b1
                            try clear p37
                            try clear q37
                            try clear hx37
                            try clear qi37
                            try clear c38
                            try clear c41
                            try clear c41b0
                            try clear c41b1
                            try clear c43
                            try clear c43b0
                            try clear c44
                            try clear c44b0
                            try clear p45
                            try clear q45
                            try clear hx45
                            try clear c46
                            try clear c46b0
                            try clear c46b1
                            try clear c47
                            try clear c47b0
                            try clear c48
                            try clear c48b0
                            try clear c48b1
                            try clear hcz20_0
                            try clear hcz20_1
                            try clear hcz23_0
                            try clear hcz23_1
                            try clear hcz32_0
                            try clear hcz32_1
                            try clear hcz39_0
                            try clear hcz39_1
                            try clear hfz20_0
                            try clear hfz20_1
                            try clear hfz23_0
                            try clear hfz23_1
                            try clear hfz32_0
                            try clear hfz32_1
                            try clear hfz39_0
                            try clear hfz39_1
                            try clear p1
                            try clear p13
                            try clear p18
                            try clear p2
                            try clear p21
                            try clear p3
                            try clear p37
                            try clear p45
                            try clear p6
                            try clear q1
                            try clear q13
                            try clear q18
                            try clear q2
                            try clear q21
                            try clear q3
                            try clear q37
                            try clear q45
                            try clear q6
                            obtain ⟨kq, x8_39, rfl, HA, HJ39, BK281, HB⟩ := hcut
                            cases kq with
                            | zero => exact absurd HA.out (by simp [soffitref01_Parse.j7])
                            | succ kj39 =>
                              have H := HA.out
                              clear HA
                              simp only [soffitref01_Parse.j7] at H
                              have HC49 := Aside0.mk H
                              clear H
                              go_upto_region 21 with (fail)
                              repeat (go_quiet (fail); go_upto_region 21 with (fail))
                              go_cut [98] (fun v98 wc => ∃ (kq : Nat) (x98_48 : Bool), v98 = .bool x98_48 ∧ Aside0 (soffitref01_Parse.j8 kq x4_1 x7_23 x8_39 x98_48 = some (r1, r2, r3)) ∧ Aside0 (kq ≤ kj39) ∧ Aside0 (wc.heap[gb281]? = some (.cells #[.int .i64 x282000_23, .int .i64 x282001_23] 23 (0, 0))) ∧ Aside0 (Below w.heap.size w wc))
                              case first =>
                                have H := HC49.out
                                clear HC49
                                by_cases c50 : (x8_39.size : Int) > 6
                                · rw [if_pos c50] at H
                                  have c50b0 : decide (6 < (x8_39.size : Int)) = true := decide_eq_true c50
                                  have c50b1 : decide (6 < x8_39.size) = true := decide_eq_true (by omega)
                                  clear c50
                                  (first | rw [c50b0] | (simp only [i64_w, i32_w]; rw [c50b0]) | skip)
                                  have H' := Aside0.mk H
                                  clear H
                                  go_wp2
                                  repeat (go_quiet (fail); try go_wp2)
                                  go_meet
                                  case rel => exact ⟨_, (true), (by first | rfl | (simp; done) | (simp [*]; done)), H', ⟨by have := HJ1.out; have := HJ6.out; have := HK3.out; have := HJ23.out; have := HJ32.out; have := HJ39.out; first | omega | exact Nat.le_refl _⟩, ⟨by (with_reducible repeat (first | refine blk_drewN ?_ _ | refine blk_drew ?_ | refine blk_alloc ?_ _)); exact BK281.out⟩, ⟨by repeat (first | (with_reducible first | exact HB.out | apply below_alloc | apply pw_below_drewN | apply below_drew1 | refine below_set ?_ GE281.out) | exact HB.out)⟩⟩
                                · rw [if_neg c50] at H
                                  have c50b0 : decide (6 < (x8_39.size : Int)) = false := decide_eq_false c50
                                  have c50b1 : decide (6 < x8_39.size) = false := decide_eq_false (by omega)
                                  clear c50
                                  (first | rw [c50b0] | (simp only [i64_w, i32_w]; rw [c50b0]) | skip)
                                  have H' := Aside0.mk H
                                  clear H
                                  go_wp2
                                  repeat (go_quiet (fail); try go_wp2)
                                  go_meet
                                  case rel => exact ⟨_, (decide ((x7_23.size : Int) > 12)), (by first | rfl | (simp; done) | (simp [*]; done)), H', ⟨by have := HJ1.out; have := HJ6.out; have := HK3.out; have := HJ23.out; have := HJ32.out; have := HJ39.out; first | omega | exact Nat.le_refl _⟩, ⟨by (with_reducible repeat (first | refine blk_drewN ?_ _ | refine blk_drew ?_ | refine blk_alloc ?_ _)); exact BK281.out⟩, ⟨by repeat (first | (with_reducible first | exact HB.out | apply below_alloc | apply pw_below_drewN | apply below_drew1 | refine below_set ?_ GE281.out) | exact HB.out)⟩⟩
                              case rest =>
                                clear HC49
                                try clear c1
                                try clear p1
                                try clear q1
                                try clear hx1
                                try clear c2
                                try clear p2
                                try clear q2
                                try clear hx2
                                try clear c3
                                try clear p3
                                try clear q3
                                try clear hx3
                                try clear qi3
                                try clear c4
                                try clear c4b0
                                try clear c4b1
                                try clear p4
                                try clear q4
                                try clear hx4
                                try clear c5
                                try clear c5b0
                                try clear c5b1
                                try clear p6
                                try clear q6
                                try clear hx6
                                try clear qi6
                                try clear c8
                                try clear c9
                                try clear c9b0
                                try clear c9b1
                                try clear c10
                                try clear c10b0
                                try clear c12
                                try clear c12b0
                                try clear p13
                                try clear q13
                                try clear hx13
                                try clear c14
                                try clear c14b0
                                try clear c14b1
                                try clear c15
                                try clear c16
                                try clear c16b0
                                try clear c17
                                try clear c17b0
                                try clear p18
                                try clear q18
                                try clear hx18
                                try clear c19
                                try clear c19b0
                                try clear p21
                                try clear q21
                                try clear hx21
                                try clear c22
                                try clear c22b0
                                try clear c25
                                try clear c25b0
                                try clear c26
                                try clear c26b0
                                try clear c26b1
                                try clear c27
                                try clear c27b0
                                try clear c27b1
                                try clear c29
                                try clear c29b0
                                try clear c29b1
                                try clear c30
                                try clear c30b0
                                try clear c30b1
                                try clear c31
                                try clear c31b0
                                try clear c31b1
                                try clear c34
                                try clear c34b0
                                try clear c34b1
                                try clear c35
                                try clear c35b0
                                try clear c35b1
                                try clear c36
                                try clear c36b0
                                try clear c36b1
                                try clear p37
                                try clear q37
                                try clear hx37
                                try clear qi37
                                try clear c38
                                try clear c41
                                try clear c41b0
                                try clear c41b1
                                try clear c43
                                try clear c43b0
                                try clear c44
                                try clear c44b0
                                try clear p45
                                try clear q45
                                try clear hx45
                                try clear c46
                                try clear c46b0
                                try clear c46b1
                                try clear c47
                                try clear c47b0
                                try clear c48
                                try clear c48b0
                                try clear c48b1
                                try clear c50
                                try clear c50b0
                                try clear c50b1
                                try clear hcz20_0
                                try clear hcz20_1
                                try clear hcz23_0
                                try clear hcz23_1
                                try clear hcz32_0
                                try clear hcz32_1
                                try clear hcz39_0
                                try clear hcz39_1
                                try clear hfz20_0
                                try clear hfz20_1
                                try clear hfz23_0
                                try clear hfz23_1
                                try clear hfz32_0
                                try clear hfz32_1
                                try clear hfz39_0
                                try clear hfz39_1
                                try clear p1
                                try clear p13
                                try clear p18
                                try clear p2
                                try clear p21
                                try clear p3
                                try clear p37
                                try clear p4
                                try clear p45
                                try clear p6
                                try clear q1
                                try clear q13
                                try clear q18
                                try clear q2
                                try clear q21
                                try clear q3
                                try clear q37
                                try clear q4
                                try clear q45
                                try clear q6
                                obtain ⟨kq, x98_48, rfl, HA, HJ48, BK281, HB⟩ := hcut
                                cases kq with
                                | zero => exact absurd HA.out (by simp [soffitref01_Parse.j8])
                                | succ kj48 =>
                                  have H := HA.out
                                  clear HA
                                  simp only [soffitref01_Parse.j8] at H
                                  by_cases c51 : x98_48 = true
                                  · subst c51
                                    have H1 : (some (0, 0, 3)) = some (r1, r2, r3) := by rw [if_pos rfl] at H; exact H
                                    clear H
                                    have H := H1
                                    clear H1
                                    simp only [Option.some.injEq, Prod.mk.injEq] at H
                                    obtain ⟨rfl, rfl, rfl⟩ := H
                                    have hcz52_0 : wc.cell? ⟨gb281, 0, none⟩ = some (.int .i64 x282000_23) := (blk_cell BK281.out 0).trans rfl
                                    have hcz52_1 : wc.cell? ⟨gb281, 1, none⟩ = some (.int .i64 x282001_23) := (blk_cell BK281.out 1).trans rfl
                                    have hfz52_0 := blk_frozen BK281.out 0
                                    have hfz52_1 := blk_frozen BK281.out 1
                                    go_wp2
                                    repeat (go_quiet (fail); try go_wp2)
                                    refine bodyPost_ret (results_ct rfl _ _ gb281 23 #[.int .i64 0, .int .i64 0] (0, 0) _ rfl (by (with_reducible repeat (first | refine blk_drewN ?_ _ | refine blk_drew ?_ | refine blk_alloc ?_ _)); refine blk_put (cs := #[.int .i64 0, .int .i64 x282001_23]) ?_ 1 _ rfl; (with_reducible repeat (first | refine blk_drewN ?_ _ | refine blk_drew ?_ | refine blk_alloc ?_ _)); refine blk_put (cs := #[.int .i64 x282000_23, .int .i64 x282001_23]) ?_ 0 _ rfl; (with_reducible repeat (first | refine blk_drewN ?_ _ | refine blk_drew ?_ | refine blk_alloc ?_ _)); exact BK281.out) Tryd.underlying23 rfl (by kernel_rfl)) rfl ?_
                                    exact ⟨by first | rfl | (simp [errW_none, errW_some] <;> rfl) | (simp [*, errW_none, errW_some] <;> rfl), by repeat (first | (with_reducible first | exact HB.out | apply below_alloc | apply pw_below_drewN | apply below_drew1 | refine below_set ?_ GE281.out) | exact HB.out)⟩
                                  · replace c51 := Bool.eq_false_iff.mpr c51
                                    subst c51
                                    have H1 : (if x7_23.size + x8_39.size ≤ 9223372036854775807 then (if 60 ≤ 35184372088832 then (soffitref01_Parse.l2 kj48 x4_1 x8_39 (x7_23 ++ x8_39) (List.replicate 60 0) 0) else (none)) else (none)) = some (r1, r2, r3) := by rw [if_neg (show ¬ (false = true) by decide)] at H; exact H
                                    clear H
                                    have H := H1
                                    clear H1
                                    by_cases c53 : x7_23.size + x8_39.size ≤ 9223372036854775807
                                    · rw [if_pos c53] at H
                                      have c53b0 := eq_true c53
                                      have c53b1 : decide (x7_23.size + x8_39.size ≤ 9223372036854775807) = true := decide_eq_true c53
                                      try have c53b2 : (9223372036854775807 < x7_23.size + x8_39.size) = False := eq_false (Nat.not_lt.2 c53)
                                      by_cases c54 : 60 ≤ 35184372088832
                                      · rw [if_pos c54] at H
                                        have c54b0 := eq_true c54
                                        have c54b1 : decide (60 ≤ 35184372088832) = true := decide_eq_true c54
                                        clear c54
                                        obtain ⟨y282, hy282⟩ : ∃ y_ : List Int, y_ = (List.replicate 60 0) := ⟨_, rfl⟩
                                        replace H : (soffitref01_Parse.l2 kj48 x4_1 x8_39 (x7_23 ++ x8_39) y282 0) = some (r1, r2, r3) := by first | (rw [hy282]; with_reducible exact H) | (have H2_ := (Option.bind_some _ _).symm.trans H; rw [hy282]; with_reducible exact H2_) | (have H2_ := (Option.bind_some _ _).symm.trans H; with_reducible exact H2_) | with_reducible exact H | (rw [hy282]; exact H) | exact H
                                        have Ny282 := Aside0.mk hy282
                                        clear hy282
                                        have H' := Aside0.mk H
                                        clear H
                                        go_wp2_with (first | ((with_reducible refine gate_dst (N := 103) rfl ?_); (try (refine gate_guard (by rfl) ?_; dsimp only)); refine Kd.R_make (Kd.int .i64) _ 3 rfl (N := 103) rfl 55 _ _ rfl 60 rfl rfl Tryd.underlying55 (.int .i64 0) 8 info3 rfl (by decide) (by omega) 0 (ok := fun _ => True) (okp := fun _ => True) rfl (fun _ hk => hk) trivial (by omega) (by omega) (Below.refl _ _) (Nat.le_refl _) ?_; intro v283 w55 ho56 hb hg_ hnew_; clear hg_ hnew_; (first | rw [← Ny282.out] at ho56 | (simp only [Int.reduceToNat] at ho56; rw [← Ny282.out] at ho56)); have n0_ := Aside0.mk (Kd.R_lower ho56 (below_size (by repeat (first | (with_reducible first | exact HB.out | apply below_alloc | apply pw_below_drewN | apply below_drew1 | refine below_set ?_ GE281.out) | exact HB.out)))); have n1_ := Aside0.mk (blk_below (g := gb281) (o := .cells #[.int .i64 x282000_23, .int .i64 x282001_23] 23 (0, 0)) (by (with_reducible repeat (first | refine blk_drewN ?_ _ | refine blk_drew ?_ | refine blk_alloc ?_ _)); exact BK281.out) hb); have n2_ := Aside0.mk (below_step (by repeat (first | (with_reducible first | exact HB.out | apply below_alloc | apply pw_below_drewN | apply below_drew1 | refine below_set ?_ GE281.out) | exact HB.out)) hb); clear BK281; clear HB; have HO284 := n0_; have BK281 := n1_; have HB := n2_; clear n0_ n1_ n2_; clear hb ho56))
                                        repeat (go_quiet (first | ((with_reducible refine gate_dst (N := 103) rfl ?_); (try (refine gate_guard (by rfl) ?_; dsimp only)); refine Kd.R_make (Kd.int .i64) _ 3 rfl (N := 103) rfl 55 _ _ rfl 60 rfl rfl Tryd.underlying55 (.int .i64 0) 8 info3 rfl (by decide) (by omega) 0 (ok := fun _ => True) (okp := fun _ => True) rfl (fun _ hk => hk) trivial (by omega) (by omega) (Below.refl _ _) (Nat.le_refl _) ?_; intro v283 w55 ho56 hb hg_ hnew_; clear hg_ hnew_; (first | rw [← Ny282.out] at ho56 | (simp only [Int.reduceToNat] at ho56; rw [← Ny282.out] at ho56)); have n0_ := Aside0.mk (Kd.R_lower ho56 (below_size (by repeat (first | (with_reducible first | exact HB.out | apply below_alloc | apply pw_below_drewN | apply below_drew1 | refine below_set ?_ GE281.out) | exact HB.out)))); have n1_ := Aside0.mk (blk_below (g := gb281) (o := .cells #[.int .i64 x282000_23, .int .i64 x282001_23] 23 (0, 0)) (by (with_reducible repeat (first | refine blk_drewN ?_ _ | refine blk_drew ?_ | refine blk_alloc ?_ _)); exact BK281.out) hb); have n2_ := Aside0.mk (below_step (by repeat (first | (with_reducible first | exact HB.out | apply below_alloc | apply pw_below_drewN | apply below_drew1 | refine below_set ?_ GE281.out) | exact HB.out)) hb); clear BK281; clear HB; have HO284 := n0_; have BK281 := n1_; have HB := n2_; clear n0_ n1_ n2_; clear hb ho56)); try go_wp2_with (first | ((with_reducible refine gate_dst (N := 103) rfl ?_); (try (refine gate_guard (by rfl) ?_; dsimp only)); refine Kd.R_make (Kd.int .i64) _ 3 rfl (N := 103) rfl 55 _ _ rfl 60 rfl rfl Tryd.underlying55 (.int .i64 0) 8 info3 rfl (by decide) (by omega) 0 (ok := fun _ => True) (okp := fun _ => True) rfl (fun _ hk => hk) trivial (by omega) (by omega) (Below.refl _ _) (Nat.le_refl _) ?_; intro v283 w55 ho56 hb hg_ hnew_; clear hg_ hnew_; (first | rw [← Ny282.out] at ho56 | (simp only [Int.reduceToNat] at ho56; rw [← Ny282.out] at ho56)); have n0_ := Aside0.mk (Kd.R_lower ho56 (below_size (by repeat (first | (with_reducible first | exact HB.out | apply below_alloc | apply pw_below_drewN | apply below_drew1 | refine below_set ?_ GE281.out) | exact HB.out)))); have n1_ := Aside0.mk (blk_below (g := gb281) (o := .cells #[.int .i64 x282000_23, .int .i64 x282001_23] 23 (0, 0)) (by (with_reducible repeat (first | refine blk_drewN ?_ _ | refine blk_drew ?_ | refine blk_alloc ?_ _)); exact BK281.out) hb); have n2_ := Aside0.mk (below_step (by repeat (first | (with_reducible first | exact HB.out | apply below_alloc | apply pw_below_drewN | apply below_drew1 | refine below_set ?_ GE281.out) | exact HB.out)) hb); clear BK281; clear HB; have HO284 := n0_; have BK281 := n1_; have HB := n2_; clear n0_ n1_ n2_; clear hb ho56)))
                                        (try simp only [Act.put, List.setIfInBounds_toArray, List.set_cons_succ, List.set_cons_zero])
                                        go_loopg [11] kj48 (fun kq v11 w' => ∃ (x10_8 : List Int) (x11_8 : Int), v11 = .int .i64 x11_8 ∧ Aside0 (soffitref01_Parse.l2 kq x4_1 x8_39 (x7_23 ++ x8_39) x10_8 x11_8 = some (r1, r2, r3)) ∧ Aside0 (kq ≤ kj48) ∧ Aside0 (Kd.R (Kd.int .i64) 3 w' w.heap.size (fun _ => True) v283 x10_8) ∧ Aside0 (w'.heap[gb281]? = some (.cells #[.int .i64 x282000_23, .int .i64 x282001_23] 23 (0, 0))) ∧ Aside0 (Below w.heap.size w w'))
                                        case atStart => exact ⟨(y282), (0), (by first | rfl | (simp; done) | (simp [*]; done)), H', ⟨Nat.le_refl _⟩, ⟨by (with_reducible repeat (first | apply Kd.R_alloc | apply Kd.R_drewN | apply Kd.R_drew)); exact HO284.out⟩, ⟨by (with_reducible repeat (first | refine blk_drewN ?_ _ | refine blk_drew ?_ | refine blk_alloc ?_ _)); exact BK281.out⟩, ⟨by repeat (first | (with_reducible first | exact HB.out | apply below_alloc | apply pw_below_drewN | apply below_drew1 | refine below_set ?_ GE281.out) | exact HB.out)⟩⟩
                                        case round =>
                                          clear H'
                                          try clear c1
                                          try clear p1
                                          try clear q1
                                          try clear hx1
                                          try clear c2
                                          try clear p2
                                          try clear q2
                                          try clear hx2
                                          try clear c3
                                          try clear p3
                                          try clear q3
                                          try clear hx3
                                          try clear qi3
                                          try clear c4
                                          try clear c4b0
                                          try clear c4b1
                                          try clear p4
                                          try clear q4
                                          try clear hx4
                                          try clear c5
                                          try clear c5b0
                                          try clear c5b1
                                          try clear p6
                                          try clear q6
                                          try clear hx6
                                          try clear qi6
                                          try clear c8
                                          try clear c9
                                          try clear c9b0
                                          try clear c9b1
                                          try clear c10
                                          try clear c10b0
                                          try clear c12
                                          try clear c12b0
                                          try clear p13
                                          try clear q13
                                          try clear hx13
                                          try clear c14
                                          try clear c14b0
                                          try clear c14b1
                                          try clear c15
                                          try clear c16
                                          try clear c16b0
                                          try clear c17
                                          try clear c17b0
                                          try clear p18
                                          try clear q18
                                          try clear hx18
                                          try clear c19
                                          try clear c19b0
                                          try clear p21
                                          try clear q21
                                          try clear hx21
                                          try clear c22
                                          try clear c22b0
                                          try clear c25
                                          try clear c25b0
                                          try clear c26
                                          try clear c26b0
                                          try clear c26b1
                                          try clear c27
                                          try clear c27b0
                                          try clear c27b1
                                          try clear c29
                                          try clear c29b0
                                          try clear c29b1
                                          try clear c30
                                          try clear c30b0
                                          try clear c30b1
                                          try clear c31
                                          try clear c31b0
                                          try clear c31b1
                                          try clear c34
                                          try clear c34b0
                                          try clear c34b1
                                          try clear c35
                                          try clear c35b0
                                          try clear c35b1
                                          try clear c36
                                          try clear c36b0
                                          try clear c36b1
                                          try clear p37
                                          try clear q37
                                          try clear hx37
                                          try clear qi37
                                          try clear c38
                                          try clear c41
                                          try clear c41b0
                                          try clear c41b1
                                          try clear c43
                                          try clear c43b0
                                          try clear c44
                                          try clear c44b0
                                          try clear p45
                                          try clear q45
                                          try clear hx45
                                          try clear c46
                                          try clear c46b0
                                          try clear c46b1
                                          try clear c47
                                          try clear c47b0
                                          try clear c48
                                          try clear c48b0
                                          try clear c48b1
                                          try clear c50
                                          try clear c50b0
                                          try clear c50b1
                                          try clear c51
                                          try clear c53
                                          try clear c53b0
                                          try clear c53b1
                                          try clear c53b2
                                          try clear c54
                                          try clear c54b0
                                          try clear c54b1
                                          try clear hcz20_0
                                          try clear hcz20_1
                                          try clear hcz23_0
                                          try clear hcz23_1
                                          try clear hcz32_0
                                          try clear hcz32_1
                                          try clear hcz39_0
                                          try clear hcz39_1
                                          try clear hcz52_0
                                          try clear hcz52_1
                                          try clear hfz20_0
                                          try clear hfz20_1
                                          try clear hfz23_0
                                          try clear hfz23_1
                                          try clear hfz32_0
                                          try clear hfz32_1
                                          try clear hfz39_0
                                          try clear hfz39_1
                                          try clear hfz52_0
                                          try clear hfz52_1
                                          try clear p1
                                          try clear p13
                                          try clear p18
                                          try clear p2
                                          try clear p21
                                          try clear p3
                                          try clear p37
                                          try clear p4
                                          try clear p45
                                          try clear p6
                                          try clear q1
                                          try clear q13
                                          try clear q18
                                          try clear q2
                                          try clear q21
                                          try clear q3
                                          try clear q37
                                          try clear q4
                                          try clear q45
                                          try clear q6
                                          obtain ⟨x10_8, x11_8, rfl, HA, HK8, HO_10, BK281, HB⟩ := hrel
                                          cases gk with
                                          | zero => exact absurd HA.out (by simp [soffitref01_Parse.l2])
                                          | succ k8 =>
                                            have H := HA.out
                                            clear HA
                                            simp only [soffitref01_Parse.l2] at H
                                            by_cases c57 : x11_8 < ((x7_23 ++ x8_39).size : Int)
                                            · rw [if_pos c57] at H
                                              have c57b0 : decide (x11_8 < ((x7_23 ++ x8_39).size : Int)) = true := decide_eq_true c57
                                              (try (have c57b0s_ : decide (x11_8 < ((x7_23.size : Int) + (x8_39.size : Int))) = true := by have z := c57b0; simp only [ByteArray.size_append, Int.natCast_add] at z; exact z))
                                              clear c57
                                              by_cases c58 : 0 ≤ x11_8
                                              · rw [if_pos c58] at H
                                                have c58b0 : decide (0 ≤ x11_8) = true := decide_eq_true c58
                                                clear c58
                                                obtain ⟨ji60, hji60⟩ : ∃ j_ : Int, (wrap64 ((wrap64 (((x7_23 ++ x8_39).size : Int) - 1)) - x11_8)) = j_ := ⟨_, rfl⟩
                                                (try (have hji60s_ : wrap64 ((wrap64 (((x7_23.size : Int) + (x8_39.size : Int)) - 1)) - x11_8) = ji60 := by have z := hji60; simp only [ByteArray.size_append, Int.natCast_add] at z; exact z))
                                                replace H : (if 0 ≤ (ji60) then (if (ji60) < (x10_8.length : Int) then (soffitref01_Parse.l2 k8 x4_1 x8_39 (x7_23 ++ x8_39) (x10_8.set ((ji60) : Int).toNat (((bt (x7_23 ++ x8_39) x11_8) - 48) % 256)) (wrap64 (x11_8 + 1))) else (none)) else (none)) = some (r1, r2, r3) := by first | (rw [hji60] at H; exact H) | (simp only [hji60] at H ⊢; exact H)
                                                have hji60w : (IntKind.i64.wrap ((wrap64 (((x7_23 ++ x8_39).size : Int) - 1)) - x11_8)) = ji60 := (i64_w _).trans hji60
                                                by_cases c61 : 0 ≤ (ji60)
                                                · rw [if_pos c61] at H
                                                  have c61b0 : decide (0 ≤ (ji60)) = true := decide_eq_true c61
                                                  clear c61
                                                  by_cases c62 : (ji60) < (x10_8.length : Int)
                                                  · rw [if_pos c62] at H
                                                    have c62b0 : decide ((ji60) < (x10_8.length : Int)) = true := decide_eq_true c62
                                                    clear c62
                                                    obtain ⟨y285, hy285⟩ : ∃ y_ : List Int, y_ = (x10_8.set ((ji60) : Int).toNat (((bt (x7_23 ++ x8_39) x11_8) - 48) % 256)) := ⟨_, rfl⟩
                                                    replace H : (soffitref01_Parse.l2 k8 x4_1 x8_39 (x7_23 ++ x8_39) y285 (wrap64 (x11_8 + 1))) = some (r1, r2, r3) := by first | (rw [hy285]; with_reducible exact H) | (have H2_ := (Option.bind_some _ _).symm.trans H; rw [hy285]; with_reducible exact H2_) | (have H2_ := (Option.bind_some _ _).symm.trans H; with_reducible exact H2_) | with_reducible exact H | (rw [hy285]; exact H) | exact H
                                                    have Ny285 := Aside0.mk hy285
                                                    clear hy285
                                                    have H' := Aside0.mk H
                                                    clear H
                                                    have p59 : 0 ≤ (x11_8 : Int) := of_decide_eq_true (by first | (with_reducible assumption) | assumption)
                                                    have q59 : x11_8 < ((x7_23 ++ x8_39).size : Int) := of_decide_eq_true (by first | (with_reducible assumption) | assumption)
                                                    (try (have q59s_ : x11_8 < ((x7_23.size : Int) + (x8_39.size : Int)) := by have z := q59; simp only [ByteArray.size_append, Int.natCast_add] at z; exact z))
                                                    have hx59 := bt_at (x7_23 ++ x8_39) x11_8
                                                    replace p59 := eq_true p59
                                                    replace q59 := eq_true q59
                                                    have p63 : 0 ≤ ((ji60) : Int) := of_decide_eq_true (by first | (with_reducible assumption) | assumption)
                                                    have q63 : ((ji60) : Int) < ((x10_8.length : Int) : Int) := of_decide_eq_true (by first | (with_reducible assumption) | assumption)
                                                    obtain ⟨go63, co63, eo63, gb63, gl63, cl63, HG63⟩ := Kd.R_form HO_10.out (by omega)
                                                    (first | cases eo63 | (injection eo63 with ea_ en_ ec_; (first | subst ea_ | (injection ea_ with ea_; subst ea_)); subst ec_; clear en_))
                                                    have GB63 := Aside0.mk gb63
                                                    have GG63 := Aside0.mk HG63
                                                    clear gb63 gl63 HG63
                                                    obtain ⟨hx63_0, hf63_0⟩ := Kd.R_celln 0 HO_10.out ((ji60) : Int) p63 q63
                                                    replace p63 := eq_true p63
                                                    replace q63 := eq_true q63
                                                    obtain ⟨hy64_, hz64_⟩ := Kd.R_celln 0 HO_10.out ((ji60) : Int) (of_decide_eq_true (by first | (with_reducible assumption) | assumption)) (of_decide_eq_true (by first | (with_reducible assumption) | assumption))
                                                    have HP64 := Kd.R_putg HO_10.out ((ji60) : Int) (((bt (x7_23 ++ x8_39) x11_8) - 48) % 256)
                                                    go_wp2_with (first | ((with_reducible refine gate_store (t := 3) (p := 121) rfl ?_); (try (rw [drewN_self wr]; generalize hq_ : World.drewN wr _ = wr; have n0_ := Aside0.mk (Kd.R_at hq_ HO_10.out); have n1_ := Aside0.mk (blk_at hq_ BK281.out); have n2_ := Aside0.mk (below_at hq_ HB.out); clear hq_ HO_10 BK281 HB; have HO_10 := n0_; have BK281 := n1_; have HB := n2_; clear n0_ n1_ n2_; (try (obtain ⟨hy64_, hz64_⟩ := Kd.R_celln 0 HO_10.out ((ji60) : Int) (of_decide_eq_true (by first | (with_reducible assumption) | assumption)) (of_decide_eq_true (by first | (with_reducible assumption) | assumption)))); (try (have HP64 := Kd.R_putg HO_10.out ((ji60) : Int) (((bt (x7_23 ++ x8_39) x11_8) - 48) % 256))))); refine store_event (t := 3) (p := 121) (v := ?vo_w65) (w1 := (wr.setCell ⟨go63, ((ji60) : Int).toNat, none⟩ (.int .i64 (((bt (x7_23 ++ x8_39) x11_8) - 48) % 256)))) ?hg ?ho ?hn ?hr ?_; (case ho => rfl); (case hg => rfl); (case hn => rfl); (case hr => first | (go_simp; done) | (go_simp; rfl)); intro w65 hw; have hg : wr.grownBy w65 (some go63) := (by rw [hw]; exact HP64.2); have hp_ : Kd.R (Kd.int .i64) 3 w65 w.heap.size (fun _ => True) (.slice (some ⟨go63, 0, none⟩) x10_8.length co63) y285 := (by rw [hw, Ny285.out]; exact HP64.1); clear HP64; have n0_ := Aside0.mk (hp_); have n1_ := Aside0.mk (blk_grown (g := gb281) (o := .cells #[.int .i64 x282000_23, .int .i64 x282001_23] 23 (0, 0)) (by (with_reducible repeat (first | refine blk_drewN ?_ _ | refine blk_drew ?_ | refine blk_alloc ?_ _)); exact BK281.out) hg (Kd.R_ne HO_10.out BK281.out (by decide))); have n2_ := Aside0.mk ((by rw [hw]; exact below_set (HB.out) GB63.out : Below w.heap.size w w65)); clear HO_10; clear BK281; clear HB; have HO_10 := n0_; have BK281 := n1_; have HB := n2_; clear n0_ n1_ n2_; clear hg hw hp_))
                                                    repeat (go_quiet (first | ((with_reducible refine gate_store (t := 3) (p := 121) rfl ?_); (try (rw [drewN_self wr]; generalize hq_ : World.drewN wr _ = wr; have n0_ := Aside0.mk (Kd.R_at hq_ HO_10.out); have n1_ := Aside0.mk (blk_at hq_ BK281.out); have n2_ := Aside0.mk (below_at hq_ HB.out); clear hq_ HO_10 BK281 HB; have HO_10 := n0_; have BK281 := n1_; have HB := n2_; clear n0_ n1_ n2_; (try (obtain ⟨hy64_, hz64_⟩ := Kd.R_celln 0 HO_10.out ((ji60) : Int) (of_decide_eq_true (by first | (with_reducible assumption) | assumption)) (of_decide_eq_true (by first | (with_reducible assumption) | assumption)))); (try (have HP64 := Kd.R_putg HO_10.out ((ji60) : Int) (((bt (x7_23 ++ x8_39) x11_8) - 48) % 256))))); refine store_event (t := 3) (p := 121) (v := ?vo_w65) (w1 := (wr.setCell ⟨go63, ((ji60) : Int).toNat, none⟩ (.int .i64 (((bt (x7_23 ++ x8_39) x11_8) - 48) % 256)))) ?hg ?ho ?hn ?hr ?_; (case ho => rfl); (case hg => rfl); (case hn => rfl); (case hr => first | (go_simp; done) | (go_simp; rfl)); intro w65 hw; have hg : wr.grownBy w65 (some go63) := (by rw [hw]; exact HP64.2); have hp_ : Kd.R (Kd.int .i64) 3 w65 w.heap.size (fun _ => True) (.slice (some ⟨go63, 0, none⟩) x10_8.length co63) y285 := (by rw [hw, Ny285.out]; exact HP64.1); clear HP64; have n0_ := Aside0.mk (hp_); have n1_ := Aside0.mk (blk_grown (g := gb281) (o := .cells #[.int .i64 x282000_23, .int .i64 x282001_23] 23 (0, 0)) (by (with_reducible repeat (first | refine blk_drewN ?_ _ | refine blk_drew ?_ | refine blk_alloc ?_ _)); exact BK281.out) hg (Kd.R_ne HO_10.out BK281.out (by decide))); have n2_ := Aside0.mk ((by rw [hw]; exact below_set (HB.out) GB63.out : Below w.heap.size w w65)); clear HO_10; clear BK281; clear HB; have HO_10 := n0_; have BK281 := n1_; have HB := n2_; clear n0_ n1_ n2_; clear hg hw hp_)); try go_wp2_with (first | ((with_reducible refine gate_store (t := 3) (p := 121) rfl ?_); (try (rw [drewN_self wr]; generalize hq_ : World.drewN wr _ = wr; have n0_ := Aside0.mk (Kd.R_at hq_ HO_10.out); have n1_ := Aside0.mk (blk_at hq_ BK281.out); have n2_ := Aside0.mk (below_at hq_ HB.out); clear hq_ HO_10 BK281 HB; have HO_10 := n0_; have BK281 := n1_; have HB := n2_; clear n0_ n1_ n2_; (try (obtain ⟨hy64_, hz64_⟩ := Kd.R_celln 0 HO_10.out ((ji60) : Int) (of_decide_eq_true (by first | (with_reducible assumption) | assumption)) (of_decide_eq_true (by first | (with_reducible assumption) | assumption)))); (try (have HP64 := Kd.R_putg HO_10.out ((ji60) : Int) (((bt (x7_23 ++ x8_39) x11_8) - 48) % 256))))); refine store_event (t := 3) (p := 121) (v := ?vo_w65) (w1 := (wr.setCell ⟨go63, ((ji60) : Int).toNat, none⟩ (.int .i64 (((bt (x7_23 ++ x8_39) x11_8) - 48) % 256)))) ?hg ?ho ?hn ?hr ?_; (case ho => rfl); (case hg => rfl); (case hn => rfl); (case hr => first | (go_simp; done) | (go_simp; rfl)); intro w65 hw; have hg : wr.grownBy w65 (some go63) := (by rw [hw]; exact HP64.2); have hp_ : Kd.R (Kd.int .i64) 3 w65 w.heap.size (fun _ => True) (.slice (some ⟨go63, 0, none⟩) x10_8.length co63) y285 := (by rw [hw, Ny285.out]; exact HP64.1); clear HP64; have n0_ := Aside0.mk (hp_); have n1_ := Aside0.mk (blk_grown (g := gb281) (o := .cells #[.int .i64 x282000_23, .int .i64 x282001_23] 23 (0, 0)) (by (with_reducible repeat (first | refine blk_drewN ?_ _ | refine blk_drew ?_ | refine blk_alloc ?_ _)); exact BK281.out) hg (Kd.R_ne HO_10.out BK281.out (by decide))); have n2_ := Aside0.mk ((by rw [hw]; exact below_set (HB.out) GB63.out : Below w.heap.size w w65)); clear HO_10; clear BK281; clear HB; have HO_10 := n0_; have BK281 := n1_; have HB := n2_; clear n0_ n1_ n2_; clear hg hw hp_)))
                                                    go_roundg k8
                                                    case measure => have := HJ1.out; have := HJ6.out; have := HK3.out; have := HJ23.out; have := HJ32.out; have := HJ39.out; have := HJ48.out; have := HK8.out; omega
                                                    case rel => exact ⟨(y285), (wrap64 (x11_8 + 1)), (by first | rfl | (simp; done) | (simp [*]; done)), H', ⟨by have := HJ1.out; have := HJ6.out; have := HK3.out; have := HJ23.out; have := HJ32.out; have := HJ39.out; have := HJ48.out; have := HK8.out; omega⟩, ⟨by (with_reducible repeat (first | apply Kd.R_alloc | apply Kd.R_drewN | apply Kd.R_drew)); exact HO_10.out⟩, ⟨by (with_reducible repeat (first | refine blk_drewN ?_ _ | refine blk_drew ?_ | refine blk_alloc ?_ _)); exact BK281.out⟩, ⟨by repeat (first | (with_reducible first | exact HB.out | apply below_alloc | apply pw_below_drewN | apply below_drew1 | refine below_set ?_ GE281.out) | exact HB.out)⟩⟩
                                                  · rw [if_neg c62] at H
                                                    exact absurd H (by simp)
                                                · rw [if_neg c61] at H
                                                  exact absurd H (by simp)
                                              · rw [if_neg c58] at H
                                                exact absurd H (by simp)
                                            · rw [if_neg c57] at H
                                              have c57b0 : decide (x11_8 < ((x7_23 ++ x8_39).size : Int)) = false := decide_eq_false c57
                                              (try (have c57b0s_ : decide (x11_8 < ((x7_23.size : Int) + (x8_39.size : Int))) = false := by have z := c57b0; simp only [ByteArray.size_append, Int.natCast_add] at z; exact z))
                                              clear c57
                                              replace H := Option.bind_eq_some_iff.mp H
                                              obtain ⟨⟨t286, t287, t288⟩, A660, H⟩ := H
                                              replace H : (some (t286, t287, t288)) = some (r1, r2, r3) := H
                                              have A66 := Aside0.mk A660
                                              clear A660
                                              simp only [Option.some.injEq, Prod.mk.injEq] at H
                                              obtain ⟨rfl, rfl, rfl⟩ := H
                                              obtain ⟨Ao67, co67, eo67⟩ := Kd.R_slice HO_10.out
                                              subst eo67
                                              go_wp2_with (first | (go_at_call 34; (with_reducible refine (soffitref01_dec.calls k8 (fun k_ => some k_ = (.slice Ao67 x10_8.length co67 : Value).ownBlock) _ _ x10_8 (x8_39.size : Int) x4_1 t286 t287 t288 _ ?side1 A66.out).mono ?_); (case side1 => exact Kd.R_V (Kd.R_tight rfl (Kd.R_types (HO_10.out) BK281.out (by decide)))); rintro e w68 ⟨rfl, hb⟩; have n0_ := Aside0.mk (Kd.R_below (by (with_reducible repeat (first | apply Kd.R_alloc | apply Kd.R_drewN | apply Kd.R_drew)); exact HO_10.out) hb); have n1_ := Aside0.mk (blk_below (g := gb281) (o := .cells #[.int .i64 x282000_23, .int .i64 x282001_23] 23 (0, 0)) (by (with_reducible repeat (first | refine blk_drewN ?_ _ | refine blk_drew ?_ | refine blk_alloc ?_ _)); exact BK281.out) hb); have n2_ := Aside0.mk (below_step (by repeat (first | (with_reducible first | exact HB.out | apply below_alloc | apply pw_below_drewN | apply below_drew1 | refine below_set ?_ GE281.out) | exact HB.out)) hb); clear HO_10; clear BK281; clear HB; have HO_10 := n0_; have BK281 := n1_; have HB := n2_; clear n0_ n1_ n2_; (try clear hb); (try clear hb2); (try clear hk); (try clear hi); have hcz69_0 : w68.cell? ⟨gb281, 0, none⟩ = some (.int .i64 x282000_23) := (blk_cell BK281.out 0).trans rfl; have hcz69_1 : w68.cell? ⟨gb281, 1, none⟩ = some (.int .i64 x282001_23) := (blk_cell BK281.out 1).trans rfl; have hfz69_0 := blk_frozen BK281.out 0; have hfz69_1 := blk_frozen BK281.out 1))
                                              repeat (go_quiet (first | (go_at_call 34; (with_reducible refine (soffitref01_dec.calls k8 (fun k_ => some k_ = (.slice Ao67 x10_8.length co67 : Value).ownBlock) _ _ x10_8 (x8_39.size : Int) x4_1 t286 t287 t288 _ ?side1 A66.out).mono ?_); (case side1 => exact Kd.R_V (Kd.R_tight rfl (Kd.R_types (HO_10.out) BK281.out (by decide)))); rintro e w68 ⟨rfl, hb⟩; have n0_ := Aside0.mk (Kd.R_below (by (with_reducible repeat (first | apply Kd.R_alloc | apply Kd.R_drewN | apply Kd.R_drew)); exact HO_10.out) hb); have n1_ := Aside0.mk (blk_below (g := gb281) (o := .cells #[.int .i64 x282000_23, .int .i64 x282001_23] 23 (0, 0)) (by (with_reducible repeat (first | refine blk_drewN ?_ _ | refine blk_drew ?_ | refine blk_alloc ?_ _)); exact BK281.out) hb); have n2_ := Aside0.mk (below_step (by repeat (first | (with_reducible first | exact HB.out | apply below_alloc | apply pw_below_drewN | apply below_drew1 | refine below_set ?_ GE281.out) | exact HB.out)) hb); clear HO_10; clear BK281; clear HB; have HO_10 := n0_; have BK281 := n1_; have HB := n2_; clear n0_ n1_ n2_; (try clear hb); (try clear hb2); (try clear hk); (try clear hi); have hcz69_0 : w68.cell? ⟨gb281, 0, none⟩ = some (.int .i64 x282000_23) := (blk_cell BK281.out 0).trans rfl; have hcz69_1 : w68.cell? ⟨gb281, 1, none⟩ = some (.int .i64 x282001_23) := (blk_cell BK281.out 1).trans rfl; have hfz69_0 := blk_frozen BK281.out 0; have hfz69_1 := blk_frozen BK281.out 1)); try go_wp2_with (first | (go_at_call 34; (with_reducible refine (soffitref01_dec.calls k8 (fun k_ => some k_ = (.slice Ao67 x10_8.length co67 : Value).ownBlock) _ _ x10_8 (x8_39.size : Int) x4_1 t286 t287 t288 _ ?side1 A66.out).mono ?_); (case side1 => exact Kd.R_V (Kd.R_tight rfl (Kd.R_types (HO_10.out) BK281.out (by decide)))); rintro e w68 ⟨rfl, hb⟩; have n0_ := Aside0.mk (Kd.R_below (by (with_reducible repeat (first | apply Kd.R_alloc | apply Kd.R_drewN | apply Kd.R_drew)); exact HO_10.out) hb); have n1_ := Aside0.mk (blk_below (g := gb281) (o := .cells #[.int .i64 x282000_23, .int .i64 x282001_23] 23 (0, 0)) (by (with_reducible repeat (first | refine blk_drewN ?_ _ | refine blk_drew ?_ | refine blk_alloc ?_ _)); exact BK281.out) hb); have n2_ := Aside0.mk (below_step (by repeat (first | (with_reducible first | exact HB.out | apply below_alloc | apply pw_below_drewN | apply below_drew1 | refine below_set ?_ GE281.out) | exact HB.out)) hb); clear HO_10; clear BK281; clear HB; have HO_10 := n0_; have BK281 := n1_; have HB := n2_; clear n0_ n1_ n2_; (try clear hb); (try clear hb2); (try clear hk); (try clear hi); have hcz69_0 : w68.cell? ⟨gb281, 0, none⟩ = some (.int .i64 x282000_23) := (blk_cell BK281.out 0).trans rfl; have hcz69_1 : w68.cell? ⟨gb281, 1, none⟩ = some (.int .i64 x282001_23) := (blk_cell BK281.out 1).trans rfl; have hfz69_0 := blk_frozen BK281.out 0; have hfz69_1 := blk_frozen BK281.out 1)))
                                              refine bodyPost_ret (results_ct rfl _ _ gb281 23 #[.int .i64 t286, .int .i64 t287] (0, 0) _ rfl (by (with_reducible repeat (first | refine blk_drewN ?_ _ | refine blk_drew ?_ | refine blk_alloc ?_ _)); refine blk_put (cs := #[.int .i64 t286, .int .i64 x282001_23]) ?_ 1 _ rfl; (with_reducible repeat (first | refine blk_drewN ?_ _ | refine blk_drew ?_ | refine blk_alloc ?_ _)); refine blk_put (cs := #[.int .i64 x282000_23, .int .i64 x282001_23]) ?_ 0 _ rfl; (with_reducible repeat (first | refine blk_drewN ?_ _ | refine blk_drew ?_ | refine blk_alloc ?_ _)); exact BK281.out) Tryd.underlying23 rfl (by kernel_rfl)) rfl ?_
                                              exact ⟨by first | rfl | (simp [errW_none, errW_some] <;> rfl) | (simp [*, errW_none, errW_some] <;> rfl), by repeat (first | (with_reducible first | exact HB.out | apply below_alloc | apply pw_below_drewN | apply below_drew1 | refine below_set ?_ GE281.out) | exact HB.out)⟩
                                      · rw [if_neg c54] at H
                                        exact absurd H (by simp)
                                    · rw [if_neg c53] at H
                                      exact absurd H (by simp)
end Go.Proofs.YtgkemhgihbfmmaaDoor.PA
end
section
namespace Go.Proofs.YtgkemhgihbfmmaaDoor.PA
open Go.RowKit Go.Proofs.YtgkemhgihbfmmaaDoorW.PrintWords Go.Proofs.YtgkemhgihbfmmaaDoorW.PrintLast Go.Proofs.YtgkemhgihbfmmaaDoorW.PrintMore
attribute [local go_sem] max2_int min2_int max_two min_two max_three min_three max_four min_four
set_option linter.unusedVariables false
set_option linter.unusedSimpArgs false
attribute [local go_sem high] eqA23
def soffitlaw01_DeciTexts.f (k : Nat) (a0_0 : Int) (a0_1 : Int) (a1 : ByteArray) : Option (Bool) := (deci_Text.f k a0_0 a0_1).bind fun bt290 => ((soffitref01_Text.f k a0_0 a0_1).bind fun bt292 => ((deci_Parse.f k a1).bind fun bt294 => ((soffitref01_Parse.f k a1).bind fun bt298 => ((soffitlaw01_awake.f k).bind fun t302 => (if t302 = true then (if bt290.1.toList = bt292.1.toList then (if bt290.2 = bt292.2 then (if (bt294.1 == bt298.1 && (bt294.2.1 == bt298.2.1)) = true then (some (bt294.2.2 == bt298.2.2)) else (some false)) else (some false)) else (some false)) else (some false))))))
theorem soffitlaw01_DeciTexts.mono : ∀ a0 a1 a2 k, LeO (soffitlaw01_DeciTexts.f k a0 a1 a2) (soffitlaw01_DeciTexts.f (k + 1) a0 a1 a2) := by
  intro a0 a1 a2 k
  unfold soffitlaw01_DeciTexts.f
  repeat' first
      | (with_reducible exact deci_Parse.mono _ _)
      | (with_reducible exact deci_Text.mono _ _ _)
      | (with_reducible exact soffitlaw01_awake.mono _)
      | (with_reducible exact soffitref01_Parse.mono _ _)
      | (with_reducible exact soffitref01_Text.mono _ _ _)
      | (with_reducible exact LeO.refl _)
      | (with_reducible exact LeO.none _)
      | (with_reducible refine LeO.ite ?_ ?_)
      | (with_reducible refine LeO.bind ?_ (fun _ => ?_))
      | exact deci_Parse.mono _ _
      | exact deci_Text.mono _ _ _
      | exact soffitlaw01_awake.mono _
      | exact soffitref01_Parse.mono _ _
      | exact soffitref01_Text.mono _ _ _
      | exact LeO.none _
      | refine LeO.ite ?_ ?_
      | refine LeO.bind ?_ (fun _ => ?_)
set_option maxHeartbeats 8000000 in
set_option maxRecDepth 100000 in
theorem soffitlaw01_DeciTexts.calls (k : Nat) (a0_0 : Int) (a0_1 : Int) (a1 : ByteArray) (r : Bool) (w : World) (hT : Tabs w) (hr : r = true) (h : soffitlaw01_DeciTexts.f k a0_0 a0_1 a1 = some r) :
    Calls Tryd.prog 5 #[.agg #[.int .i64 a0_0, .int .i64 a0_1], .string a1] w fun e w' => e = .returned (.bool r) ∧ Below w.heap.size w w' := by
  have hu23 := Tryd.underlying23
  have HT := Aside0.mk hT
  clear hT
  have HR := Aside0.mk hr
  clear hr
  have HB := Aside0.mk (Below.refl w.heap.size w)
  have H : ((deci_Text.f k a0_0 a0_1).bind fun bt290 => ((soffitref01_Text.f k a0_0 a0_1).bind fun bt292 => ((deci_Parse.f k a1).bind fun bt294 => ((soffitref01_Parse.f k a1).bind fun bt298 => ((soffitlaw01_awake.f k).bind fun t302 => (if t302 = true then (if bt290.1.toList = bt292.1.toList then (if bt290.2 = bt292.2 then (if (bt294.1 == bt298.1 && (bt294.2.1 == bt298.2.1)) = true then (some (bt294.2.2 == bt298.2.2)) else (some false)) else (some false)) else (some false)) else (some false))))))) = some r := h
  clear h
  replace H := Option.bind_eq_some_iff.mp H
  obtain ⟨⟨t290, t291⟩, A30, H⟩ := H
  replace H : ((soffitref01_Text.f k a0_0 a0_1).bind fun bt292 => ((deci_Parse.f k a1).bind fun bt294 => ((soffitref01_Parse.f k a1).bind fun bt298 => ((soffitlaw01_awake.f k).bind fun t302 => (if t302 = true then (if t290.toList = bt292.1.toList then (if t291 = bt292.2 then (if (bt294.1 == bt298.1 && (bt294.2.1 == bt298.2.1)) = true then (some (bt294.2.2 == bt298.2.2)) else (some false)) else (some false)) else (some false)) else (some false)))))) = some r := H
  have A3 := Aside0.mk A30
  clear A30
  replace H := Option.bind_eq_some_iff.mp H
  obtain ⟨⟨t292, t293⟩, A40, H⟩ := H
  replace H : ((deci_Parse.f k a1).bind fun bt294 => ((soffitref01_Parse.f k a1).bind fun bt298 => ((soffitlaw01_awake.f k).bind fun t302 => (if t302 = true then (if t290.toList = t292.toList then (if t291 = t293 then (if (bt294.1 == bt298.1 && (bt294.2.1 == bt298.2.1)) = true then (some (bt294.2.2 == bt298.2.2)) else (some false)) else (some false)) else (some false)) else (some false))))) = some r := H
  have A4 := Aside0.mk A40
  clear A40
  replace H := Option.bind_eq_some_iff.mp H
  obtain ⟨⟨t294, t295, t296⟩, A50, H⟩ := H
  replace H : ((soffitref01_Parse.f k a1).bind fun bt298 => ((soffitlaw01_awake.f k).bind fun t302 => (if t302 = true then (if t290.toList = t292.toList then (if t291 = t293 then (if (t294 == bt298.1 && (t295 == bt298.2.1)) = true then (some (t296 == bt298.2.2)) else (some false)) else (some false)) else (some false)) else (some false)))) = some r := H
  have A5 := Aside0.mk A50
  clear A50
  replace H := Option.bind_eq_some_iff.mp H
  obtain ⟨⟨t298, t299, t300⟩, A60, H⟩ := H
  replace H : ((soffitlaw01_awake.f k).bind fun t302 => (if t302 = true then (if t290.toList = t292.toList then (if t291 = t293 then (if (t294 == t298 && (t295 == t299)) = true then (some (t296 == t300)) else (some false)) else (some false)) else (some false)) else (some false))) = some r := H
  have A6 := Aside0.mk A60
  clear A60
  replace H := Option.bind_eq_some_iff.mp H
  obtain ⟨t302, A70, H⟩ := H
  replace H : (if t302 = true then (if t290.toList = t292.toList then (if t291 = t293 then (if (t294 == t298 && (t295 == t299)) = true then (some (t296 == t300)) else (some false)) else (some false)) else (some false)) else (some false)) = some r := H
  have A7 := Aside0.mk A70
  clear A70
  by_cases c8 : t302 = true
  · subst c8
    have H1 : (if t290.toList = t292.toList then (if t291 = t293 then (if (t294 == t298 && (t295 == t299)) = true then (some (t296 == t300)) else (some false)) else (some false)) else (some false)) = some r := by rw [if_pos rfl] at H; exact H
    clear H
    have H := H1
    clear H1
    by_cases c9 : t290.toList = t292.toList
    · rw [if_pos c9] at H
      have c9b0 : (t290.toList == t292.toList) = true := beq_iff_eq.mpr c9
      have c9b1 : (t290.toList != t292.toList) = false := bne_eq_false_iff_eq.mpr c9
      clear c9
      by_cases c10 : t291 = t293
      · rw [if_pos c10] at H
        have c10b0 : (t291 == t293) = true := beq_iff_eq.mpr c10
        have c10b1 : (t291 != t293) = false := bne_eq_false_iff_eq.mpr c10
        clear c10
        by_cases c11 : (t294 == t298 && (t295 == t299)) = true
        · rw [if_pos c11] at H
          have c11b0 : (t294 == t298 && (t295 == t299)) = true := c11
          (try (have c11b1 : decide (t294 = t298 && (t295 == t299)) = true := by simpa using c11))
          (try (have c11b2 : (t294 == t298 && (t295 == t299)) = true := by simpa using c11))
          clear c11
          obtain rfl := Option.some.inj H
          go_enter Tryd.func5, Tryd.ntmps5
          go_wp2_with (first | ((with_reducible refine gate_dst (N := 2) rfl ?_); refine box_event ?hg (N := 2) ?hd (cs := #[.int .i64 a0_0, .int .i64 a0_1]) (t := 23) ?hr ?_; (case hd => rfl); (case hg => rfl); (case hr => first | (go_simp; done) | (go_simp; rfl)); intro gb289 hg w12 hbox hb; have n0_ := Aside0.mk (below_step (by repeat (first | (with_reducible first | exact HB.out | apply below_alloc | apply pw_below_drewN | apply below_drew1) | exact HB.out)) hb); have n1_ := Aside0.mk (hbox); have n2_ := Aside0.mk ((by rw [hg]; exact (below_size (by repeat (first | (with_reducible first | exact HB.out | apply below_alloc | apply pw_below_drewN | apply below_drew1) | exact HB.out))) : w.heap.size ≤ gb289)); have n3_ := Aside0.mk ((by rw [hg]; exact (below_size (by repeat (first | (with_reducible first | exact HB.out | apply below_alloc | apply pw_below_drewN | apply below_drew1) | exact HB.out))) : w.heap.size ≤ gb289)); clear HB; have HB := n0_; have BK289 := n1_; have GW289 := n2_; have GE289 := n3_; clear n0_ n1_ n2_ n3_; clear hb hbox hg; have hcz13_0 : w12.cell? ⟨gb289, 0, none⟩ = some (.int .i64 a0_0) := (blk_cell BK289.out 0).trans rfl; have hcz13_1 : w12.cell? ⟨gb289, 1, none⟩ = some (.int .i64 a0_1) := (blk_cell BK289.out 1).trans rfl; have hfz13_0 := blk_frozen BK289.out 0; have hfz13_1 := blk_frozen BK289.out 1) | ((with_reducible refine gate_callee (f := 16) rfl ?_); refine goesL_ (some 15) rfl rfl Tryd.func16 (by kernel_rfl) rfl #[.agg #[.int .i64 a0_0, .int .i64 a0_1]] rfl (by (try simp only [List.map_toArray, List.map_cons, List.map_nil]); first | done | rfl | (simp only [List.length_drop, List.length_take]; rfl)) ?_; (with_reducible refine (deci_Text.calls k a0_0 a0_1 t290 t291 _ ?side1 A3.out).mono ?_); (case side1 => exact tabs_of HT.out (by repeat (first | (with_reducible first | exact HB.out | apply below_alloc | apply pw_below_drewN | apply below_drew1 | refine below_set ?_ GE289.out) | exact HB.out))); rintro e w14 ⟨rfl, hb⟩; refine ⟨_, rfl, ?_⟩; have n0_ := Aside0.mk (blk_below (g := gb289) (o := .cells #[.int .i64 a0_0, .int .i64 a0_1] 23 (0, 0)) (by (with_reducible repeat (first | refine blk_drewN ?_ _ | refine blk_drew ?_ | refine blk_alloc ?_ _)); exact BK289.out) hb); have n1_ := Aside0.mk (below_step (by repeat (first | (with_reducible first | exact HB.out | apply below_alloc | apply pw_below_drewN | apply below_drew1 | refine below_set ?_ GE289.out) | exact HB.out)) hb); clear BK289; clear HB; have BK289 := n0_; have HB := n1_; clear n0_ n1_; (try clear hb); (try clear hb2); (try clear hk); (try clear hi); have hcz15_0 : w14.cell? ⟨gb289, 0, none⟩ = some (.int .i64 a0_0) := (blk_cell BK289.out 0).trans rfl; have hcz15_1 : w14.cell? ⟨gb289, 1, none⟩ = some (.int .i64 a0_1) := (blk_cell BK289.out 1).trans rfl; have hfz15_0 := blk_frozen BK289.out 0; have hfz15_1 := blk_frozen BK289.out 1) | ((with_reducible refine gate_callee (f := 17) rfl ?_); refine goesL_ (some 20) rfl rfl Tryd.func17 (by kernel_rfl) rfl #[.agg #[.int .i64 a0_0, .int .i64 a0_1]] rfl (by (try simp only [List.map_toArray, List.map_cons, List.map_nil]); first | done | rfl | (simp only [List.length_drop, List.length_take]; rfl)) ?_; (with_reducible refine (soffitref01_Text.calls k a0_0 a0_1 t292 t293 _ A4.out).mono ?_); rintro e w16 ⟨rfl, hb⟩; refine ⟨_, rfl, ?_⟩; have n0_ := Aside0.mk (blk_below (g := gb289) (o := .cells #[.int .i64 a0_0, .int .i64 a0_1] 23 (0, 0)) (by (with_reducible repeat (first | refine blk_drewN ?_ _ | refine blk_drew ?_ | refine blk_alloc ?_ _)); exact BK289.out) hb); have n1_ := Aside0.mk (below_step (by repeat (first | (with_reducible first | exact HB.out | apply below_alloc | apply pw_below_drewN | apply below_drew1 | refine below_set ?_ GE289.out) | exact HB.out)) hb); clear BK289; clear HB; have BK289 := n0_; have HB := n1_; clear n0_ n1_; (try clear hb); (try clear hb2); (try clear hk); (try clear hi)) | ((with_reducible refine gate_callee (f := 18) rfl ?_); refine goesL_ (some 25) rfl rfl Tryd.func18 (by kernel_rfl) rfl #[.string a1] rfl (by (try simp only [List.map_toArray, List.map_cons, List.map_nil]); first | done | rfl | (simp only [List.length_drop, List.length_take]; rfl)) ?_; (with_reducible refine (deci_Parse.calls k a1 t294 t295 t296 _ A5.out).mono ?_); rintro e w17 ⟨rfl, hb⟩; refine ⟨_, rfl, ?_⟩; have n0_ := Aside0.mk (blk_below (g := gb289) (o := .cells #[.int .i64 a0_0, .int .i64 a0_1] 23 (0, 0)) (by (with_reducible repeat (first | refine blk_drewN ?_ _ | refine blk_drew ?_ | refine blk_alloc ?_ _)); exact BK289.out) hb); have n1_ := Aside0.mk (below_step (by repeat (first | (with_reducible first | exact HB.out | apply below_alloc | apply pw_below_drewN | apply below_drew1 | refine below_set ?_ GE289.out) | exact HB.out)) hb); clear BK289; clear HB; have BK289 := n0_; have HB := n1_; clear n0_ n1_; (try clear hb); (try clear hb2); (try clear hk); (try clear hi)) | ((with_reducible refine gate_dst (N := 9) rfl ?_); refine box_event ?hg (N := 9) ?hd (cs := #[.int .i64 0, .int .i64 0]) (t := 23) ?hr ?_; (case hd => rfl); (case hg => rfl); (case hr => first | (go_simp; done) | (go_simp; rfl)); intro gb297 hg w18 hbox hb; have n0_ := Aside0.mk (blk_below (g := gb289) (o := .cells #[.int .i64 a0_0, .int .i64 a0_1] 23 (0, 0)) (by (with_reducible repeat (first | refine blk_drewN ?_ _ | refine blk_drew ?_ | refine blk_alloc ?_ _)); exact BK289.out) hb); have n1_ := Aside0.mk (below_step (by repeat (first | (with_reducible first | exact HB.out | apply below_alloc | apply pw_below_drewN | apply below_drew1 | refine below_set ?_ GE289.out) | exact HB.out)) hb); have n2_ := Aside0.mk (hbox); have n3_ := Aside0.mk ((by rw [hg]; exact (below_size (by repeat (first | (with_reducible first | exact HB.out | apply below_alloc | apply pw_below_drewN | apply below_drew1 | refine below_set ?_ GE289.out) | exact HB.out))) : w.heap.size ≤ gb297)); have n4_ := Aside0.mk ((by rw [hg]; exact (below_size (by repeat (first | (with_reducible first | exact HB.out | apply below_alloc | apply pw_below_drewN | apply below_drew1 | refine below_set ?_ GE289.out) | exact HB.out))) : w.heap.size ≤ gb297)); have n5_ := Aside0.mk ((by rw [hg]; exact Nat.ne_of_lt (blk_lt (g := gb289) (o := .cells #[.int .i64 a0_0, .int .i64 a0_1] 23 (0, 0)) (by (with_reducible repeat (first | refine blk_drewN ?_ _ | refine blk_drew ?_ | refine blk_alloc ?_ _)); exact BK289.out)) : gb289 ≠ gb297)); have n6_ := Aside0.mk ((by rw [hg]; exact Nat.ne_of_gt (blk_lt (g := gb289) (o := .cells #[.int .i64 a0_0, .int .i64 a0_1] 23 (0, 0)) (by (with_reducible repeat (first | refine blk_drewN ?_ _ | refine blk_drew ?_ | refine blk_alloc ?_ _)); exact BK289.out)) : gb297 ≠ gb289)); clear BK289; clear HB; have BK289 := n0_; have HB := n1_; have BK297 := n2_; have GW297 := n3_; have GE297 := n4_; have NB289_297 := n5_; have NB297_289 := n6_; clear n0_ n1_ n2_ n3_ n4_ n5_ n6_; clear hb hbox hg; have hnb19 := NB297_289.out; have hnc19 := NB289_297.out; have hcz20_0 : w18.cell? ⟨gb297, 0, none⟩ = some (.int .i64 0) := (blk_cell BK297.out 0).trans rfl; have hcz20_1 : w18.cell? ⟨gb297, 1, none⟩ = some (.int .i64 0) := (blk_cell BK297.out 1).trans rfl; have hfz20_0 := blk_frozen BK297.out 0; have hfz20_1 := blk_frozen BK297.out 1) | ((with_reducible refine gate_callee (f := 19) rfl ?_); refine goesL_ (some 30) rfl rfl Tryd.func19 (by kernel_rfl) rfl #[.string a1] rfl (by (try simp only [List.map_toArray, List.map_cons, List.map_nil]); first | done | rfl | (simp only [List.length_drop, List.length_take]; rfl)) ?_; (with_reducible refine (soffitref01_Parse.calls k a1 t298 t299 t300 _ A6.out).mono ?_); rintro e w21 ⟨rfl, hb⟩; refine ⟨_, rfl, ?_⟩; have n0_ := Aside0.mk (blk_below (g := gb289) (o := .cells #[.int .i64 a0_0, .int .i64 a0_1] 23 (0, 0)) (by (with_reducible repeat (first | refine blk_drewN ?_ _ | refine blk_drew ?_ | refine blk_alloc ?_ _)); refine blk_far ?_ NB289_297.out _; (with_reducible repeat (first | refine blk_drewN ?_ _ | refine blk_drew ?_ | refine blk_alloc ?_ _)); refine blk_far ?_ NB289_297.out _; (with_reducible repeat (first | refine blk_drewN ?_ _ | refine blk_drew ?_ | refine blk_alloc ?_ _)); exact BK289.out) hb); have n1_ := Aside0.mk (blk_below (g := gb297) (o := .cells #[.int .i64 t294, .int .i64 t295] 23 (0, 0)) (by (with_reducible repeat (first | refine blk_drewN ?_ _ | refine blk_drew ?_ | refine blk_alloc ?_ _)); refine blk_put (cs := #[.int .i64 t294, .int .i64 0]) ?_ 1 _ rfl; (with_reducible repeat (first | refine blk_drewN ?_ _ | refine blk_drew ?_ | refine blk_alloc ?_ _)); refine blk_put (cs := #[.int .i64 0, .int .i64 0]) ?_ 0 _ rfl; (with_reducible repeat (first | refine blk_drewN ?_ _ | refine blk_drew ?_ | refine blk_alloc ?_ _)); exact BK297.out) hb); have n2_ := Aside0.mk (below_step (by repeat (first | (with_reducible first | exact HB.out | apply below_alloc | apply pw_below_drewN | apply below_drew1 | refine below_set ?_ GE289.out | refine below_set ?_ GE297.out) | exact HB.out)) hb); clear BK289; clear BK297; clear HB; have BK289 := n0_; have BK297 := n1_; have HB := n2_; clear n0_ n1_ n2_; (try clear hb); (try clear hb2); (try clear hk); (try clear hi)) | ((with_reducible refine gate_dst (N := 11) rfl ?_); refine box_event ?hg (N := 11) ?hd (cs := #[.int .i64 0, .int .i64 0]) (t := 23) ?hr ?_; (case hd => rfl); (case hg => rfl); (case hr => first | (go_simp; done) | (go_simp; rfl)); intro gb301 hg w22 hbox hb; have n0_ := Aside0.mk (blk_below (g := gb289) (o := .cells #[.int .i64 a0_0, .int .i64 a0_1] 23 (0, 0)) (by (with_reducible repeat (first | refine blk_drewN ?_ _ | refine blk_drew ?_ | refine blk_alloc ?_ _)); exact BK289.out) hb); have n1_ := Aside0.mk (blk_below (g := gb297) (o := .cells #[.int .i64 t294, .int .i64 t295] 23 (0, 0)) (by (with_reducible repeat (first | refine blk_drewN ?_ _ | refine blk_drew ?_ | refine blk_alloc ?_ _)); exact BK297.out) hb); have n2_ := Aside0.mk (below_step (by repeat (first | (with_reducible first | exact HB.out | apply below_alloc | apply pw_below_drewN | apply below_drew1 | refine below_set ?_ GE289.out | refine below_set ?_ GE297.out) | exact HB.out)) hb); have n3_ := Aside0.mk (hbox); have n4_ := Aside0.mk ((by rw [hg]; exact (below_size (by repeat (first | (with_reducible first | exact HB.out | apply below_alloc | apply pw_below_drewN | apply below_drew1 | refine below_set ?_ GE289.out | refine below_set ?_ GE297.out) | exact HB.out))) : w.heap.size ≤ gb301)); have n5_ := Aside0.mk ((by rw [hg]; exact (below_size (by repeat (first | (with_reducible first | exact HB.out | apply below_alloc | apply pw_below_drewN | apply below_drew1 | refine below_set ?_ GE289.out | refine below_set ?_ GE297.out) | exact HB.out))) : w.heap.size ≤ gb301)); have n6_ := Aside0.mk ((by rw [hg]; exact Nat.ne_of_lt (blk_lt (g := gb289) (o := .cells #[.int .i64 a0_0, .int .i64 a0_1] 23 (0, 0)) (by (with_reducible repeat (first | refine blk_drewN ?_ _ | refine blk_drew ?_ | refine blk_alloc ?_ _)); exact BK289.out)) : gb289 ≠ gb301)); have n7_ := Aside0.mk ((by rw [hg]; exact Nat.ne_of_gt (blk_lt (g := gb289) (o := .cells #[.int .i64 a0_0, .int .i64 a0_1] 23 (0, 0)) (by (with_reducible repeat (first | refine blk_drewN ?_ _ | refine blk_drew ?_ | refine blk_alloc ?_ _)); exact BK289.out)) : gb301 ≠ gb289)); have n8_ := Aside0.mk ((by rw [hg]; exact Nat.ne_of_lt (blk_lt (g := gb297) (o := .cells #[.int .i64 t294, .int .i64 t295] 23 (0, 0)) (by (with_reducible repeat (first | refine blk_drewN ?_ _ | refine blk_drew ?_ | refine blk_alloc ?_ _)); exact BK297.out)) : gb297 ≠ gb301)); have n9_ := Aside0.mk ((by rw [hg]; exact Nat.ne_of_gt (blk_lt (g := gb297) (o := .cells #[.int .i64 t294, .int .i64 t295] 23 (0, 0)) (by (with_reducible repeat (first | refine blk_drewN ?_ _ | refine blk_drew ?_ | refine blk_alloc ?_ _)); exact BK297.out)) : gb301 ≠ gb297)); clear BK289; clear BK297; clear HB; have BK289 := n0_; have BK297 := n1_; have HB := n2_; have BK301 := n3_; have GW301 := n4_; have GE301 := n5_; have NB289_301 := n6_; have NB301_289 := n7_; have NB297_301 := n8_; have NB301_297 := n9_; clear n0_ n1_ n2_ n3_ n4_ n5_ n6_ n7_ n8_ n9_; clear hb hbox hg; have hnb23 := NB301_289.out; have hnc23 := NB289_301.out; have hnb24 := NB301_297.out; have hnc24 := NB297_301.out; have hcz25_0 : w22.cell? ⟨gb301, 0, none⟩ = some (.int .i64 0) := (blk_cell BK301.out 0).trans rfl; have hcz25_1 : w22.cell? ⟨gb301, 1, none⟩ = some (.int .i64 0) := (blk_cell BK301.out 1).trans rfl; have hfz25_0 := blk_frozen BK301.out 0; have hfz25_1 := blk_frozen BK301.out 1) | ((with_reducible refine gate_callee (f := 11) rfl ?_); refine goesL_ (some 33) rfl rfl Tryd.func11 (by kernel_rfl) rfl #[] rfl (by (try simp only [List.map_toArray, List.map_cons, List.map_nil]); first | done | rfl | (simp only [List.length_drop, List.length_take]; rfl)) ?_; (with_reducible refine (soffitlaw01_awake.calls k  true _ ?side1 A7.out).mono ?_); (case side1 => exact tabs_of HT.out (by repeat (first | (with_reducible first | exact HB.out | apply below_alloc | apply pw_below_drewN | apply below_drew1 | refine below_set ?_ GE289.out | refine below_set ?_ GE297.out | refine below_set ?_ GE301.out) | exact HB.out))); rintro e w26 ⟨rfl, hb⟩; refine ⟨_, rfl, ?_⟩; have n0_ := Aside0.mk (blk_below (g := gb289) (o := .cells #[.int .i64 a0_0, .int .i64 a0_1] 23 (0, 0)) (by (with_reducible repeat (first | refine blk_drewN ?_ _ | refine blk_drew ?_ | refine blk_alloc ?_ _)); refine blk_far ?_ NB289_301.out _; (with_reducible repeat (first | refine blk_drewN ?_ _ | refine blk_drew ?_ | refine blk_alloc ?_ _)); refine blk_far ?_ NB289_301.out _; (with_reducible repeat (first | refine blk_drewN ?_ _ | refine blk_drew ?_ | refine blk_alloc ?_ _)); exact BK289.out) hb); have n1_ := Aside0.mk (blk_below (g := gb297) (o := .cells #[.int .i64 t294, .int .i64 t295] 23 (0, 0)) (by (with_reducible repeat (first | refine blk_drewN ?_ _ | refine blk_drew ?_ | refine blk_alloc ?_ _)); refine blk_far ?_ NB297_301.out _; (with_reducible repeat (first | refine blk_drewN ?_ _ | refine blk_drew ?_ | refine blk_alloc ?_ _)); refine blk_far ?_ NB297_301.out _; (with_reducible repeat (first | refine blk_drewN ?_ _ | refine blk_drew ?_ | refine blk_alloc ?_ _)); exact BK297.out) hb); have n2_ := Aside0.mk (blk_below (g := gb301) (o := .cells #[.int .i64 t298, .int .i64 t299] 23 (0, 0)) (by (with_reducible repeat (first | refine blk_drewN ?_ _ | refine blk_drew ?_ | refine blk_alloc ?_ _)); refine blk_put (cs := #[.int .i64 t298, .int .i64 0]) ?_ 1 _ rfl; (with_reducible repeat (first | refine blk_drewN ?_ _ | refine blk_drew ?_ | refine blk_alloc ?_ _)); refine blk_put (cs := #[.int .i64 0, .int .i64 0]) ?_ 0 _ rfl; (with_reducible repeat (first | refine blk_drewN ?_ _ | refine blk_drew ?_ | refine blk_alloc ?_ _)); exact BK301.out) hb); have n3_ := Aside0.mk (below_step (by repeat (first | (with_reducible first | exact HB.out | apply below_alloc | apply pw_below_drewN | apply below_drew1 | refine below_set ?_ GE289.out | refine below_set ?_ GE297.out | refine below_set ?_ GE301.out) | exact HB.out)) hb); clear BK289; clear BK297; clear BK301; clear HB; have BK289 := n0_; have BK297 := n1_; have BK301 := n2_; have HB := n3_; clear n0_ n1_ n2_ n3_; (try clear hb); (try clear hb2); (try clear hk); (try clear hi); have hcz27_0 : w26.cell? ⟨gb297, 0, none⟩ = some (.int .i64 t294) := (blk_cell BK297.out 0).trans rfl; have hcz27_1 : w26.cell? ⟨gb297, 1, none⟩ = some (.int .i64 t295) := (blk_cell BK297.out 1).trans rfl; have hfz27_0 := blk_frozen BK297.out 0; have hfz27_1 := blk_frozen BK297.out 1; have hcz28_0 : w26.cell? ⟨gb301, 0, none⟩ = some (.int .i64 t298) := (blk_cell BK301.out 0).trans rfl; have hcz28_1 : w26.cell? ⟨gb301, 1, none⟩ = some (.int .i64 t299) := (blk_cell BK301.out 1).trans rfl; have hfz28_0 := blk_frozen BK301.out 0; have hfz28_1 := blk_frozen BK301.out 1))
          go_ret
          exact ⟨by first | rfl | (simp [errW_none, errW_some] <;> rfl) | (simp [*, errW_none, errW_some] <;> rfl), by repeat (first | (with_reducible first | exact HB.out | apply below_alloc | apply pw_below_drewN | apply below_drew1 | refine below_set ?_ GE289.out | refine below_set ?_ GE297.out | refine below_set ?_ GE301.out) | exact HB.out)⟩
        · rw [if_neg c11] at H
          have c11b0 : (t294 == t298 && (t295 == t299)) = false := by simpa using c11
          (try (have c11b1 : decide (t294 = t298 && (t295 == t299)) = false := by simpa using c11))
          (try (have c11b2 : (t294 == t298 && (t295 == t299)) = false := by simpa using c11))
          (try (have c11b3 : ¬ (t294 = t298 && (t295 == t299)) := by simpa using c11))
          clear c11
          exact absurd HR.out (by rw [← Option.some.inj H]; simp)
      · rw [if_neg c10] at H
        have c10b0 : (t291 == t293) = false := beq_eq_false_iff_ne.mpr c10
        have c10b1 : (t291 != t293) = true := bne_iff_ne.mpr c10
        exact absurd HR.out (by rw [← Option.some.inj H]; simp)
    · rw [if_neg c9] at H
      have c9b0 : (t290.toList == t292.toList) = false := beq_eq_false_iff_ne.mpr c9
      have c9b1 : (t290.toList != t292.toList) = true := bne_iff_ne.mpr c9
      exact absurd HR.out (by rw [← Option.some.inj H]; simp)
  · replace c8 := Bool.eq_false_iff.mpr c8
    subst c8
    have H1 : (some false) = some r := by rw [if_neg (show ¬ (false = true) by decide)] at H; exact H
    clear H
    have H := H1
    clear H1
    exact absurd HR.out (by rw [← Option.some.inj H]; simp)
end Go.Proofs.YtgkemhgihbfmmaaDoor.PA
end
section
namespace Go.Proofs.YtgkemhgihbfmmaaDoor.M
def sh : Nat → Int → Int × Int
  | 0, n => (n, 0)
  | s + 1, n => if n % 10 = 0 then sh s (n / 10) else (n, (s : Int) + 1)
theorem sh_id (s : Nat) (n : Int) (h : s = 0 ∨ n % 10 ≠ 0) : sh s n = (n, (s : Int)) := by
  cases s with
  | zero => rfl
  | succ s =>
    have h' : ¬ n % 10 = 0 := by omega
    simp [sh, h']
theorem sh_neg (s : Nat) : ∀ n : Int, sh s (-n) = (-(sh s n).1, (sh s n).2) := by
  induction s with
  | zero => intro n; rfl
  | succ s ih =>
    intro n
    by_cases h : n % 10 = 0
    · have h2 : (-n) % 10 = 0 := by omega
      have h3 : (-n) / 10 = -(n / 10) := by omega
      simp only [sh, h, h2, if_true, h3, ih]
    · have h2 : ¬ (-n) % 10 = 0 := by omega
      simp only [sh, h, h2, if_false]
theorem sh_spec (s : Nat) : ∀ n : Int, ∃ t : Nat, t ≤ s ∧ (sh s n).2 = ((s - t : Nat) : Int) ∧ n = (sh s n).1 * 10 ^ t ∧ ((sh s n).2 = 0 ∨ (sh s n).1 % 10 ≠ 0) := by
  induction s with
  | zero => intro n; exact ⟨0, Nat.le_refl _, rfl, by simp [sh], .inl rfl⟩
  | succ s ih =>
    intro n
    by_cases h : n % 10 = 0
    · obtain ⟨t, h1, h2, h3, h4⟩ := ih (n / 10)
      refine ⟨t + 1, by omega, ?_, ?_, ?_⟩
      · simp only [sh, h, if_true]; rw [h2]; congr 1; omega
      · simp only [sh, h, if_true]
        have e : n = (n / 10) * 10 := by omega
        rw [Int.pow_succ, ← Int.mul_assoc, ← h3]; exact e
      · simp only [sh, h, if_true]; exact h4
    · refine ⟨0, Nat.zero_le _, ?_, ?_, ?_⟩
      · simp [sh, h]
      · simp [sh, h]
      · simp only [sh, h, if_false]; exact .inr h
theorem sh_nonneg (s : Nat) : ∀ n : Int, 0 ≤ n → 0 ≤ (sh s n).1 ∧ (sh s n).1 ≤ n := by
  induction s with
  | zero => intro n h; simp only [sh]; omega
  | succ s ih =>
    intro n h
    by_cases h1 : n % 10 = 0
    · have := ih (n / 10) (by omega)
      simp only [sh, h1, if_true]; omega
    · simp only [sh, h1, if_false]; omega
def decS (n : Int) (s : Nat) (m : Bool) : Int × Int × Int :=
  if 999999999999 < (sh s n).1 then (0, 0, 3) else (if m = true then -(sh s n).1 else (sh s n).1, (sh s n).2, 0)
def Snd (n s : Int) : Prop := 0 ≤ s ∧ s ≤ 6 ∧ -999999999999 ≤ n ∧ n ≤ 999999999999 ∧ (s = 0 ∨ n % 10 ≠ 0)
instance (n s : Int) : Decidable (Snd n s) := by unfold Snd; infer_instance
def mk (n s : Int) : Int × Int × Int :=
  if s < 0 ∨ 6 < s ∨ 999999999999 < n ∨ n < -999999999999 then (0, 0, 3) else ((sh s.toNat n).1, (sh s.toNat n).2, 0)
theorem mk_sound (n s : Int) (h : Snd n s) : mk n s = (n, s, 0) := by
  obtain ⟨h0, h1, h2, h3, h4⟩ := h
  unfold mk; rw [if_neg (by omega)]
  rw [sh_id s.toNat n (by omega)]; simp only [Prod.mk.injEq, and_true, true_and]; omega
theorem mk_unsound (n s : Int) (h : ¬ Snd n s) : ¬ ((mk n s).2.2 = 0 ∧ (mk n s).1 = n ∧ (mk n s).2.1 = s) := by
  unfold mk
  by_cases h1 : s < 0 ∨ 6 < s ∨ 999999999999 < n ∨ n < -999999999999
  · rw [if_pos h1]; simp
  · rw [if_neg h1]
    rintro ⟨_, h2, h3⟩
    apply h
    refine ⟨by omega, by omega, by omega, by omega, ?_⟩
    obtain ⟨t, _, _, _, h4⟩ := sh_spec s.toNat n
    simp only at h2 h3
    rw [h2, h3] at h4; exact h4
def rhe (v b : Int) : Int := if b < 2 * (v % b) ∨ (2 * (v % b) = b ∧ (v / b) % 2 = 1) then v / b + 1 else v / b
def val : List Int → Int
  | [] => 0
  | d :: l => d + 10 * val l
def Dig (l : List Int) : Prop := ∀ d, d ∈ l → 0 ≤ d ∧ d ≤ 9
theorem Dig.cons {d : Int} {l : List Int} : Dig (d :: l) ↔ (0 ≤ d ∧ d ≤ 9) ∧ Dig l :=
  ⟨fun h => ⟨h d (List.mem_cons_self), fun x hx => h x (List.mem_cons_of_mem _ hx)⟩, fun h x hx => by
    rcases List.mem_cons.1 hx with rfl | hx
    · exact h.1
    · exact h.2 x hx⟩
theorem Dig.nil : Dig [] := fun _ h => by cases h
theorem Dig.drop {l : List Int} (h : Dig l) (k : Nat) : Dig (l.drop k) := fun d hd => h d (List.mem_of_mem_drop hd)
theorem Dig.take {l : List Int} (h : Dig l) (k : Nat) : Dig (l.take k) := fun d hd => h d (List.mem_of_mem_take hd)
theorem Dig.append {l m : List Int} (h : Dig l) (h' : Dig m) : Dig (l ++ m) := fun d hd => (List.mem_append.1 hd).elim (h d) (h' d)
theorem Dig.replicate (n : Nat) : Dig (List.replicate n 0) := fun d hd => by
  have := (List.mem_replicate.1 hd).2; omega
theorem val_nonneg {l : List Int} (h : Dig l) : 0 ≤ val l := by
  induction l with
  | nil => exact Int.le_refl _
  | cons d l ih => have := ih (Dig.cons.1 h).2; have := (Dig.cons.1 h).1; simp only [val]; omega
theorem val_lt {l : List Int} (h : Dig l) : val l < 10 ^ l.length := by
  induction l with
  | nil => decide
  | cons d l ih =>
    have h1 := ih (Dig.cons.1 h).2; have h2 := (Dig.cons.1 h).1
    simp only [val, List.length_cons, Int.pow_succ]; omega
theorem val_append (l m : List Int) : val (l ++ m) = val l + 10 ^ l.length * val m := by
  induction l with
  | nil => simp [val]
  | cons d l ih =>
    simp only [List.cons_append, val, ih, List.length_cons, Int.pow_succ, Int.mul_add]
    rw [Int.mul_comm (10 ^ l.length) 10, Int.mul_assoc]; omega
theorem val_replicate (n : Nat) : val (List.replicate n 0) = 0 := by
  induction n with
  | zero => rfl
  | succ n ih => simp [List.replicate_succ, val, ih]
theorem pow_pos (k : Nat) : (0 : Int) < 10 ^ k := Int.pow_pos (by decide)
theorem val_drop {l : List Int} (h : Dig l) (k : Nat) (hk : k ≤ l.length) : val (l.drop k) = val l / 10 ^ k ∧ val (l.take k) = val l % 10 ^ k := by
  have e := val_append (l.take k) (l.drop k)
  rw [List.take_append_drop] at e
  have hl : (l.take k).length = k := by rw [List.length_take]; omega
  rw [hl] at e
  have h1 := val_nonneg (h.take k); have h2 := val_lt (h.take k); rw [hl] at h2
  have hp := pow_pos k
  rw [e]
  constructor
  · rw [Int.add_mul_ediv_left _ _ (by omega), Int.ediv_eq_zero_of_lt h1 h2]; omega
  · rw [Int.add_mul_emod_self_left]; exact (Int.emod_eq_of_lt h1 h2).symm
def addc : Int → List Int → List Int → List Int
  | c, x :: xs, y :: ys => (x + y + c) % 10 :: addc ((x + y + c) / 10) xs ys
  | _, _, _ => []
theorem addc_length : ∀ (a b : List Int) (c : Int), a.length = b.length → (addc c a b).length = a.length
  | [], [], _, _ => rfl
  | x :: xs, y :: ys, c, h => by simp [addc, addc_length xs ys _ (by simpa using h)]
  | [], _ :: _, _, h => by simp at h
  | _ :: _, [], _, h => by simp at h
theorem addc_dig : ∀ (a b : List Int) (c : Int), Dig (addc c a b)
  | [], [], _ => Dig.nil
  | [], _ :: _, _ => Dig.nil
  | _ :: _, [], _ => Dig.nil
  | x :: xs, y :: ys, c => Dig.cons.2 ⟨by omega, addc_dig xs ys _⟩
theorem addc_val : ∀ (a b : List Int) (c : Int), a.length = b.length → val (addc c a b) = (val a + val b + c) % 10 ^ a.length
  | [], [], c, _ => by simp [addc, val]
  | [], _ :: _, _, h => by simp at h
  | _ :: _, [], _, h => by simp at h
  | x :: xs, y :: ys, c, h => by
    have ih := addc_val xs ys ((x + y + c) / 10) (by simpa using h)
    simp only [addc, val, ih, List.length_cons, Int.pow_succ]
    have hp := pow_pos xs.length
    generalize (10 : Int) ^ xs.length = P at hp ih ⊢
    have e : x + 10 * val xs + (y + 10 * val ys) + c = 10 * (val xs + val ys + (x + y + c) / 10) + (x + y + c) % 10 := by omega
    rw [e]
    generalize val xs + val ys + (x + y + c) / 10 = T
    have hr : 0 ≤ (x + y + c) % 10 ∧ (x + y + c) % 10 < 10 := by omega
    generalize (x + y + c) % 10 = r at hr ⊢
    have e2 : 10 * T + r = 10 * (T % P) + r + (P * 10) * (T / P) := by
      have := Int.emod_add_mul_ediv T P
      have e3 : P * 10 * (T / P) = 10 * (P * (T / P)) := by rw [Int.mul_comm P 10, Int.mul_assoc]
      rw [e3]; omega
    have h1 := Int.emod_nonneg T (Int.ne_of_gt hp); have h2 := Int.emod_lt_of_pos T hp
    rw [e2, Int.add_mul_emod_self_left]
    generalize T % P = m at h1 h2 ⊢
    rw [Int.emod_eq_of_lt (by omega) (by omega)]; omega
theorem rhe_digits (v : Int) (c : Nat) (hv : 0 ≤ v) :
    rhe v (10 ^ (c + 1)) = v / 10 ^ (c + 1) + (if 5 < v / 10 ^ c % 10 ∨ (v / 10 ^ c % 10 = 5 ∧ (0 < v % 10 ^ c ∨ v / 10 ^ (c + 1) % 10 % 2 = 1)) then 1 else 0) := by
  have hp := pow_pos c
  unfold rhe
  rw [Int.pow_succ]
  generalize (10 : Int) ^ c = P at hp ⊢
  have e1 : v % (P * 10) = v % P + P * (v / P % 10) := by
    have h1 := Int.emod_add_mul_ediv v P
    have h2 := Int.emod_add_mul_ediv (v / P) 10
    have h3 : v = (v % P + P * (v / P % 10)) + (P * 10) * (v / P / 10) := by
      have e : P * (v / P) = P * (v / P % 10) + P * 10 * (v / P / 10) := by
        rw [Int.mul_assoc, ← Int.mul_add, h2]
      omega
    have h4 := Int.emod_nonneg v (Int.ne_of_gt hp); have h5 := Int.emod_lt_of_pos v hp
    have h6 : 0 ≤ v / P % 10 ∧ v / P % 10 ≤ 9 := by omega
    have h7 : 0 ≤ P * (v / P % 10) := Int.mul_nonneg (by omega) h6.1
    have h8 : P * (v / P % 10) ≤ P * 9 := Int.mul_le_mul_of_nonneg_left h6.2 (by omega)
    have h9 : v % (P * 10) = ((v % P + P * (v / P % 10)) + (P * 10) * (v / P / 10)) % (P * 10) := by rw [← h3]
    rw [h9, Int.add_mul_emod_self_left, Int.emod_eq_of_lt (by omega) (by omega)]
  rw [e1]
  have h4 := Int.emod_nonneg v (Int.ne_of_gt hp); have h5 := Int.emod_lt_of_pos v hp
  have h6 : 0 ≤ v / P % 10 ∧ v / P % 10 ≤ 9 := by omega
  generalize v % P = L at h4 h5 ⊢
  generalize v / P % 10 = h at h6 ⊢
  have ee : v / (P * 10) % 10 % 2 = v / (P * 10) % 2 := by omega
  rw [ee]
  generalize v / (P * 10) = q
  have hh : P * h < P * 5 ∧ P * h ≤ P * 4 ∨ P * h = P * 5 ∧ h = 5 ∨ P * 6 ≤ P * h ∧ 5 < h := by
    rcases Int.lt_trichotomy h 5 with g | g | g
    · exact .inl ⟨Int.mul_lt_mul_of_pos_left g hp, Int.mul_le_mul_of_nonneg_left (by omega) (by omega)⟩
    · exact .inr (.inl ⟨by rw [g], g⟩)
    · exact .inr (.inr ⟨Int.mul_le_mul_of_nonneg_left (by omega) (by omega), g⟩)
  have hlt : P * h ≤ P * 4 → h < 5 := fun g => by
    false_or_by_contra
    have : P * 5 ≤ P * h := Int.mul_le_mul_of_nonneg_left (by omega) (by omega)
    omega
  generalize P * h = Ph at hh hlt ⊢
  rcases hh with ⟨g1, g2⟩ | ⟨g1, g2⟩ | ⟨g1, g2⟩
  · have := hlt g2; rw [if_neg (by omega), if_neg (by omega)]; omega
  · subst g1; subst g2
    by_cases g3 : 0 < L ∨ q % 2 = 1
    · rw [if_pos (by omega), if_pos (by omega)]
    · rw [if_neg (by omega), if_neg (by omega)]; omega
  · rw [if_pos (by omega), if_pos (by omega)]
end Go.Proofs.YtgkemhgihbfmmaaDoor.M
end
section
namespace Go.Proofs.YtgkemhgihbfmmaaDoor.PA
open Go.RowKit Go.Proofs.YtgkemhgihbfmmaaDoorW.PrintWords Go.Proofs.YtgkemhgihbfmmaaDoorW.PrintLast Go.Proofs.YtgkemhgihbfmmaaDoorW.PrintMore
open Go.Proofs.YtgkemhgihbfmmaaDoor.M
theorem w64 {x : Int} (h1 : -9223372036854775808 ≤ x) (h2 : x < 9223372036854775808) : wrap64 x = x := by unfold wrap64; omega
theorem wu64 {x : Int} (h1 : 0 ≤ x) (h2 : x < 18446744073709551616) : IntKind.u64.wrap x = x := by rw [IntKind.wrap_u64]; omega
theorem obs {α β : Type} (a : α) (f : α → Option β) : (some a).bind f = f a := by simp
theorem succ_of {k : Nat} (h : 0 < k) : ∃ m, k = m + 1 := ⟨k - 1, by omega⟩
theorem short_l0 (s : Nat) : ∀ (k : Nat) (n : Int), s < k → s ≤ 1000 → 0 ≤ n → n < 18446744073709551616 → deci_form_short.l0 k n s = some (sh s n) := by
  induction s with
  | zero =>
    intro k n hk _ _ _
    obtain ⟨k, rfl⟩ := succ_of (show 0 < k by omega)
    simp only [deci_form_short.l0]; rw [if_neg (by omega)]; rfl
  | succ s ih =>
    intro k n hk hs h0 h1
    obtain ⟨k, rfl⟩ := succ_of (show 0 < k by omega)
    simp only [deci_form_short.l0]
    rw [if_pos (by omega), Int.tmod_eq_emod_of_nonneg h0, Int.tdiv_eq_ediv_of_nonneg h0]
    by_cases h : n % 10 = 0
    · rw [if_pos h, wu64 (by omega) (by omega), w64 (by omega) (by omega), show ((s + 1 : Nat) : Int) - 1 = (s : Int) by omega, ih k (n / 10) (by omega) (by omega) (by omega) (by omega)]
      simp only [sh, h, if_true]
    · rw [if_neg h]; simp only [sh, h, if_false]; rfl
theorem dec_f {k : Nat} {n s : Int} {m : Bool} (hk : 8 ≤ k) (h0 : 0 ≤ n) (h1 : n < 18446744073709551616) (hs0 : 0 ≤ s) (hs : s ≤ 6) :
    deci_form_dec.f k n s m = some (decS n s.toNat m) := by
  obtain ⟨t, rfl⟩ := Int.eq_ofNat_of_zero_le hs0
  unfold deci_form_dec.f deci_form_short.f
  rw [short_l0 t k n (by omega) (by omega) h0 h1]
  simp only [Option.bind_some, Int.toNat_natCast]
  have hb := sh_nonneg t n h0
  unfold decS
  by_cases h : 999999999999 < (sh t n).1
  · rw [if_pos h, if_pos h]
  · rw [if_neg h, if_neg h, w64 (x := (sh t n).1) (by omega) (by omega), w64 (by omega) (by omega)]
    cases m <;> rfl
theorem mx_abs {n : Int} (h1 : -9223372036854775807 ≤ n) (h2 : n < 9223372036854775808) : IntKind.u64.wrap (mx n (wrap64 (-n))) = n.natAbs := by
  rw [w64 (by omega) (by omega)]; unfold mx
  split <;> (rw [wu64 (by omega) (by omega)]; omega)
theorem decS_mk (n s : Int) (h : ¬ (s < 0 ∨ 6 < s ∨ 999999999999 < n ∨ n < -999999999999)) : decS (n.natAbs : Int) s.toNat (decide (n < 0)) = mk n s := by
  unfold decS mk
  rw [if_neg h]
  have hb := sh_nonneg s.toNat (n.natAbs : Int) (by omega)
  rw [if_neg (by omega)]
  by_cases g : n < 0
  · have e : n = -((n.natAbs : Nat) : Int) := by omega
    simp only [g, decide_true, if_true]
    rw [e, sh_neg]; simp
  · have e : ((n.natAbs : Nat) : Int) = n := by omega
    simp only [g, decide_false, Bool.false_eq_true, if_false]
    rw [e]
theorem make_f {k : Nat} (hk : 10 ≤ k) (n s : Int) : deci_Make.f k n s = some (mk n s) := by
  have hj : ∀ b : Bool, b = decide (s < 0 ∨ 6 < s ∨ 999999999999 < n ∨ n < -999999999999) → deci_Make.j0 k n s b = some (mk n s) := by
    intro b hb
    obtain ⟨k, rfl⟩ := succ_of (show 0 < k by omega)
    simp only [deci_Make.j0]
    by_cases h : s < 0 ∨ 6 < s ∨ 999999999999 < n ∨ n < -999999999999
    · rw [if_pos (by rw [hb]; exact decide_eq_true h)]; unfold mk; rw [if_pos h]
    · rw [if_neg (by rw [hb, decide_eq_false h]; simp), mx_abs (by omega) (by omega), dec_f (by omega) (by omega) (by omega) (by omega) (by omega)]
      simp only [Option.bind_some]
      rw [decS_mk n s h]
  unfold deci_Make.f
  by_cases h1 : s < 0
  · rw [if_pos h1]; exact hj _ (decide_eq_true (by omega)).symm
  rw [if_neg h1]
  by_cases h2 : s > 6
  · rw [if_pos h2]; exact hj _ (decide_eq_true (by omega)).symm
  rw [if_neg h2]
  by_cases h3 : n > 999999999999
  · rw [if_pos h3]; exact hj _ (decide_eq_true (by omega)).symm
  rw [if_neg h3]
  exact hj _ (by rw [decide_eq_decide]; omega)
theorem refmake_l0 (s : Nat) : ∀ (k : Nat) (n : Int), s < k → s ≤ 1000 → -9223372036854775808 ≤ n → n < 9223372036854775808 → soffitref01_Make.l0 k n s = some ((sh s n).1, (sh s n).2, 0) := by
  induction s with
  | zero =>
    intro k n hk _ _ _
    obtain ⟨k, rfl⟩ := succ_of (show 0 < k by omega)
    simp only [soffitref01_Make.l0]; rw [if_neg (by omega)]; rfl
  | succ s ih =>
    intro k n hk hs h0 h1
    obtain ⟨k, rfl⟩ := succ_of (show 0 < k by omega)
    simp only [soffitref01_Make.l0]
    rw [if_pos (by omega)]
    have e : Int.tmod n 10 = 0 ↔ n % 10 = 0 := by
      constructor
      · intro h; have := Int.dvd_of_tmod_eq_zero h; omega
      · intro h; exact Int.tmod_eq_zero_of_dvd (by omega)
    by_cases h : n % 10 = 0
    · have hd : Int.tdiv n 10 = n / 10 := Int.tdiv_eq_ediv_of_dvd (by omega)
      rw [if_pos (e.2 h), hd, w64 (by omega) (by omega), w64 (by omega) (by omega), show ((s + 1 : Nat) : Int) - 1 = (s : Int) by omega, ih k (n / 10) (by omega) (by omega) (by omega) (by omega)]
      simp only [sh, h, if_true]
    · rw [if_neg (fun g => h (e.1 g))]; simp only [sh, h, if_false]; rfl
theorem refmake_f {k : Nat} (hk : 10 ≤ k) (n s : Int) : soffitref01_Make.f k n s = some (mk n s) := by
  have hj : ∀ b : Bool, b = decide (s < 0 ∨ 6 < s ∨ 999999999999 < n ∨ n < -999999999999) → soffitref01_Make.j0 k n s b = some (mk n s) := by
    intro b hb
    obtain ⟨k, rfl⟩ := succ_of (show 0 < k by omega)
    simp only [soffitref01_Make.j0]
    by_cases h : s < 0 ∨ 6 < s ∨ 999999999999 < n ∨ n < -999999999999
    · rw [if_pos (by rw [hb]; exact decide_eq_true h)]; unfold mk; rw [if_pos h]
    · rw [if_neg (by rw [hb, decide_eq_false h]; simp)]
      obtain ⟨t, rfl⟩ := Int.eq_ofNat_of_zero_le (show 0 ≤ s by omega)
      rw [refmake_l0 t k n (by omega) (by omega) (by omega) (by omega)]
      unfold mk; rw [if_neg h, Int.toNat_natCast]
  unfold soffitref01_Make.f
  by_cases h1 : s < 0
  · rw [if_pos h1]; exact hj _ (decide_eq_true (by omega)).symm
  rw [if_neg h1]
  by_cases h2 : s > 6
  · rw [if_pos h2]; exact hj _ (decide_eq_true (by omega)).symm
  rw [if_neg h2]
  by_cases h3 : n > 999999999999
  · rw [if_pos h3]; exact hj _ (decide_eq_true (by omega)).symm
  rw [if_neg h3]
  exact hj _ (by rw [decide_eq_decide]; omega)
theorem sound_f {k : Nat} (hk : 10 ≤ k) (n s : Int) : deci_Sound.f k n s = some (decide (Snd n s)) := by
  unfold deci_Sound.f
  rw [make_f hk]; simp only [Option.bind_some]
  by_cases h : Snd n s
  · rw [mk_sound n s h]; simp [h]
  · have hu := mk_unsound n s h
    by_cases e : (mk n s).2.2 = 0
    · rw [if_pos e]; simp only [h, decide_false, Option.some.injEq, Bool.and_eq_false_iff, beq_eq_false_iff_ne]
      by_cases e1 : (mk n s).1 = n
      · right; intro e2; exact hu ⟨e, e1, e2⟩
      · left; exact e1
    · rw [if_neg e]; simp [h]
theorem refsound_f {k : Nat} (hk : 10 ≤ k) (n s : Int) : soffitref01_Sound.f k n s = some (decide (Snd n s)) := by
  unfold soffitref01_Sound.f
  rw [refmake_f hk]; simp only [Option.bind_some]
  by_cases h : Snd n s
  · rw [mk_sound n s h]; simp [h]
  · have hu := mk_unsound n s h
    by_cases e : (mk n s).2.2 = 0
    · rw [if_pos e]
      by_cases e1 : (mk n s).1 = n
      · rw [if_pos e1]; simp only [h, decide_false, Option.some.injEq, beq_eq_false_iff_ne]
        intro e2; exact hu ⟨e, e1, e2⟩
      · rw [if_neg e1]; simp [h]
    · rw [if_neg e]; simp [h]
theorem all_one {k : Nat} (hk : 15 ≤ k) (n s : Int) : deci_all.f k [⟨n, s⟩] = some (if Snd n s then 0 else 2) := by
  obtain ⟨k, rfl⟩ : ∃ m, k = m + 2 := ⟨k - 2, by omega⟩
  unfold deci_all.f
  simp only [deci_all.l0, List.length_singleton]
  have e0 : rd_T23 [(⟨n, s⟩ : S23)] 0 = ⟨n, s⟩ := rfl
  rw [if_pos (by decide), if_pos (by decide), if_pos (by decide), e0, sound_f (by omega)]
  simp only [Option.bind_some, decide_eq_true_eq]
  by_cases h : Snd n s
  · rw [if_pos h, if_pos h, if_neg (by rw [w64 (by decide) (by decide)]; decide)]
  · rw [if_neg h, if_neg h]
theorem size_f {n s : Int} (h : Snd n s) : deci_size.f n s = some (n.natAbs : Int) := by
  obtain ⟨_, _, h1, h2, _⟩ := h
  unfold deci_size.f; rw [mx_abs (by omega) (by omega)]
end Go.Proofs.YtgkemhgihbfmmaaDoor.PA
end
section
namespace Go.Proofs.YtgkemhgihbfmmaaDoor.PA
open Go.RowKit Go.Proofs.YtgkemhgihbfmmaaDoorW.PrintWords Go.Proofs.YtgkemhgihbfmmaaDoorW.PrintLast Go.Proofs.YtgkemhgihbfmmaaDoorW.PrintMore
open Go.Proofs.YtgkemhgihbfmmaaDoor.M
structure Guess (Y a b U u q r : Int) : Prop where
  hY : Y = a * 4294967296 + b
  ha : 2147483648 ≤ a
  ha' : a < 4294967296
  hb : 0 ≤ b
  hb' : b < 4294967296
  hU : 0 ≤ U
  hU' : U < Y
  hu : 0 ≤ u
  hu' : u < 4294967296
  hq : q * a + r = U
  hr : 0 ≤ r
  hr' : r < 4294967296
  hge : (U * 4294967296 + u) / Y ≤ q
end Go.Proofs.YtgkemhgihbfmmaaDoor.PA
end
