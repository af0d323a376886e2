/- Part 19 of the proof for Divides: functions of the program as plain Lean functions, their calls, and what they come to. -/
import Derived.RowKit
import Derived.Laws.BitsLemmas
import Derived.Shelf.Bits.Mul64
import Derived.Test.YtgkemhgihbfmmaaDoorDividesK16
import Derived.Test.YtgkemhgihbfmmaaDoorDividesK17
import Derived.Test.YtgkemhgihbfmmaaDoorDividesK2
section
namespace Go.Proofs.YtgkemhgihbfmmaaDoor.PA
open Go.RowKit Go.Proofs.YtgkemhgihbfmmaaDoorW.PrintWords Go.Proofs.YtgkemhgihbfmmaaDoorW.PrintLast Go.Proofs.YtgkemhgihbfmmaaDoorW.PrintMore
attribute [local go_sem] max2_int min2_int max_two min_two max_three min_three max_four min_four
set_option linter.unusedVariables false
set_option linter.unusedSimpArgs false
mutual
def soffitref01_dec.j2 : Nat → List Int → Int → Bool → Int → Option (Int × Int × Int)
  | 0, _, _, _, _ => none
  | k + 1, x0, x1, x2, x9 => if 0 ≤ (x0.length : Int) then (if ((x0.length : Int) : Int).toNat ≤ 35184372088832 then ((some (List.replicate ((x0.length : Int) : Int).toNat 0 : List Int)).bind fun y219 => (if 0 < (y219.length : Int) then ((soffitref01_plus.f k x0 (y219.set (0 : Int).toNat x9)).bind fun t223 => (soffitref01_dec.l1 k t223 x1 x2)) else (none))) else (none)) else (none)
def soffitref01_dec.j4 : Nat → List Int → Int → Bool → Option (Int × Int × Int)
  | 0, _, _, _ => none
  | k + 1, x0, x1, x2 => soffitref01_dec.l2 k x0 x1 x2 0 (wrap64 ((x0.length : Int) - 1))
def soffitref01_dec.l2 : Nat → List Int → Int → Bool → Int → Int → Option (Int × Int × Int)
  | 0, _, _, _, _, _ => none
  | k + 1, x0, x1, x2, x15, x16 => if x16 ≥ 0 then (if x15 > 999999999999 then (some (0, 0, 3)) else (if 0 ≤ x16 then (if x16 < (x0.length : Int) then (soffitref01_dec.l2 k x0 x1 x2 (wrap64 ((wrap64 (x15 * 10)) + (rd x0 x16))) (wrap64 (x16 - 1))) else (none)) else (none))) else (if x15 > 999999999999 then (some (0, 0, 3)) else (if x2 = true then (some (wrap64 (-x15), x1, 0)) else (some (x15, x1, 0))))
def soffitref01_dec.l1 : Nat → List Int → Int → Bool → Option (Int × Int × Int)
  | 0, _, _, _ => none
  | k + 1, x0, x1, x2 => if x1 > 0 then (if 0 < (x0.length : Int) then (if (rd x0 0) = 0 then (if 1 ≤ (x0.length : Int) then (soffitref01_dec.l1 k (x0.drop (1 : Int).toNat) (wrap64 (x1 - 1)) x2) else (none)) else (soffitref01_dec.j4 k x0 x1 x2)) else (none)) else (soffitref01_dec.j4 k x0 x1 x2)
def soffitref01_dec.l0 : Nat → List Int → Bool → Int → Int → Int → Int → Option (Int × Int × Int)
  | 0, _, _, _, _, _, _ => none
  | k + 1, x0, x2, x8, x9, x10, x11 => if x11 < (wrap64 (x8 - 1)) then (if 0 ≤ x11 then (if x11 < (x0.length : Int) then (soffitref01_dec.l0 k x0 x2 x8 x9 (wrap64 (x10 + (rd x0 x11))) (wrap64 (x11 + 1))) else (none)) else (none)) else (if 0 ≤ (wrap64 (x8 - 1)) then (if (wrap64 (x8 - 1)) < (x0.length : Int) then (if 0 ≤ x8 then (if x8 < (x0.length : Int) then (if (rd x0 (wrap64 (x8 - 1))) > 5 then (soffitref01_dec.j1 k x0 x2 x8 x9 true) else (if (rd x0 (wrap64 (x8 - 1))) = 5 then (if x10 > 0 then (soffitref01_dec.j1 k x0 x2 x8 x9 true) else (soffitref01_dec.j1 k x0 x2 x8 x9 ((Int.tmod (rd x0 x8) 2) == 1))) else (soffitref01_dec.j1 k x0 x2 x8 x9 false))) else (none)) else (none)) else (none)) else (none))
def soffitref01_dec.j1 : Nat → List Int → Bool → Int → Int → Bool → Option (Int × Int × Int)
  | 0, _, _, _, _, _ => none
  | k + 1, x0, x2, x8, x9, x56 => if x56 = true then (if 0 ≤ x8 then (if x8 ≤ (x0.length : Int) then (soffitref01_dec.j2 k (x0.drop (x8 : Int).toNat) 6 x2 1) else (none)) else (none)) else (if 0 ≤ x8 then (if x8 ≤ (x0.length : Int) then (soffitref01_dec.j2 k (x0.drop (x8 : Int).toNat) 6 x2 x9) else (none)) else (none))
end
def soffitref01_dec.f (k : Nat) (l0 : List Int) (a1 : Int) (a2 : Bool) : Option (Int × Int × Int) := if (wrap64 (a1 - 6)) > 0 then (soffitref01_dec.l0 k l0 a2 (wrap64 (a1 - 6)) 0 0 0) else (soffitref01_dec.j2 k l0 a1 a2 0)
theorem soffitref01_dec.mono_l : ∀ k, (∀ y0 y1 y2 y3, LeO (soffitref01_dec.j2 k y0 y1 y2 y3) (soffitref01_dec.j2 (k + 1) y0 y1 y2 y3)) ∧ (∀ y0 y1 y2, LeO (soffitref01_dec.j4 k y0 y1 y2) (soffitref01_dec.j4 (k + 1) y0 y1 y2)) ∧ (∀ y0 y1 y2 y3 y4, LeO (soffitref01_dec.l2 k y0 y1 y2 y3 y4) (soffitref01_dec.l2 (k + 1) y0 y1 y2 y3 y4)) ∧ (∀ y0 y1 y2, LeO (soffitref01_dec.l1 k y0 y1 y2) (soffitref01_dec.l1 (k + 1) y0 y1 y2)) ∧ (∀ y0 y1 y2 y3 y4 y5, LeO (soffitref01_dec.l0 k y0 y1 y2 y3 y4 y5) (soffitref01_dec.l0 (k + 1) y0 y1 y2 y3 y4 y5)) ∧ (∀ y0 y1 y2 y3 y4, LeO (soffitref01_dec.j1 k y0 y1 y2 y3 y4) (soffitref01_dec.j1 (k + 1) y0 y1 y2 y3 y4))
  | 0 => ⟨fun _ _ _ _ r h => by simp [soffitref01_dec.j2] at h, fun _ _ _ r h => by simp [soffitref01_dec.j4] at h, fun _ _ _ _ _ r h => by simp [soffitref01_dec.l2] at h, fun _ _ _ r h => by simp [soffitref01_dec.l1] at h, fun _ _ _ _ _ _ r h => by simp [soffitref01_dec.l0] at h, fun _ _ _ _ _ r h => by simp [soffitref01_dec.j1] at h⟩
  | k + 1 => by
    obtain ⟨ih0, ih1, ih2, ih3, ih4, ih5⟩ := soffitref01_dec.mono_l k
    refine ⟨?_, ?_, ?_, ?_, ?_, ?_⟩
    · intro y0 y1 y2 y3
      unfold soffitref01_dec.j2
      repeat' first
      | (with_reducible exact ih0 _ _ _ _)
      | (with_reducible exact ih1 _ _ _)
      | (with_reducible exact ih2 _ _ _ _ _)
      | (with_reducible exact ih3 _ _ _)
      | (with_reducible exact ih4 _ _ _ _ _ _)
      | (with_reducible exact ih5 _ _ _ _ _)
      | (with_reducible exact soffitref01_plus.mono _ _ _)
      | (with_reducible exact LeO.refl _)
      | (with_reducible exact LeO.none _)
      | (with_reducible refine LeO.ite ?_ ?_)
      | (with_reducible refine LeO.bind ?_ (fun _ => ?_))
      | exact ih0 _ _ _ _
      | exact ih1 _ _ _
      | exact ih2 _ _ _ _ _
      | exact ih3 _ _ _
      | exact ih4 _ _ _ _ _ _
      | exact ih5 _ _ _ _ _
      | exact soffitref01_plus.mono _ _ _
      | exact LeO.none _
      | refine LeO.ite ?_ ?_
      | refine LeO.bind ?_ (fun _ => ?_)
    · intro y0 y1 y2
      unfold soffitref01_dec.j4
      repeat' first
      | (with_reducible exact ih0 _ _ _ _)
      | (with_reducible exact ih1 _ _ _)
      | (with_reducible exact ih2 _ _ _ _ _)
      | (with_reducible exact ih3 _ _ _)
      | (with_reducible exact ih4 _ _ _ _ _ _)
      | (with_reducible exact ih5 _ _ _ _ _)
      | (with_reducible exact soffitref01_plus.mono _ _ _)
      | (with_reducible exact LeO.refl _)
      | (with_reducible exact LeO.none _)
      | (with_reducible refine LeO.ite ?_ ?_)
      | (with_reducible refine LeO.bind ?_ (fun _ => ?_))
      | exact ih0 _ _ _ _
      | exact ih1 _ _ _
      | exact ih2 _ _ _ _ _
      | exact ih3 _ _ _
      | exact ih4 _ _ _ _ _ _
      | exact ih5 _ _ _ _ _
      | exact soffitref01_plus.mono _ _ _
      | exact LeO.none _
      | refine LeO.ite ?_ ?_
      | refine LeO.bind ?_ (fun _ => ?_)
    · intro y0 y1 y2 y3 y4
      unfold soffitref01_dec.l2
      repeat' first
      | (with_reducible exact ih0 _ _ _ _)
      | (with_reducible exact ih1 _ _ _)
      | (with_reducible exact ih2 _ _ _ _ _)
      | (with_reducible exact ih3 _ _ _)
      | (with_reducible exact ih4 _ _ _ _ _ _)
      | (with_reducible exact ih5 _ _ _ _ _)
      | (with_reducible exact soffitref01_plus.mono _ _ _)
      | (with_reducible exact LeO.refl _)
      | (with_reducible exact LeO.none _)
      | (with_reducible refine LeO.ite ?_ ?_)
      | (with_reducible refine LeO.bind ?_ (fun _ => ?_))
      | exact ih0 _ _ _ _
      | exact ih1 _ _ _
      | exact ih2 _ _ _ _ _
      | exact ih3 _ _ _
      | exact ih4 _ _ _ _ _ _
      | exact ih5 _ _ _ _ _
      | exact soffitref01_plus.mono _ _ _
      | exact LeO.none _
      | refine LeO.ite ?_ ?_
      | refine LeO.bind ?_ (fun _ => ?_)
    · intro y0 y1 y2
      unfold soffitref01_dec.l1
      repeat' first
      | (with_reducible exact ih0 _ _ _ _)
      | (with_reducible exact ih1 _ _ _)
      | (with_reducible exact ih2 _ _ _ _ _)
      | (with_reducible exact ih3 _ _ _)
      | (with_reducible exact ih4 _ _ _ _ _ _)
      | (with_reducible exact ih5 _ _ _ _ _)
      | (with_reducible exact soffitref01_plus.mono _ _ _)
      | (with_reducible exact LeO.refl _)
      | (with_reducible exact LeO.none _)
      | (with_reducible refine LeO.ite ?_ ?_)
      | (with_reducible refine LeO.bind ?_ (fun _ => ?_))
      | exact ih0 _ _ _ _
      | exact ih1 _ _ _
      | exact ih2 _ _ _ _ _
      | exact ih3 _ _ _
      | exact ih4 _ _ _ _ _ _
      | exact ih5 _ _ _ _ _
      | exact soffitref01_plus.mono _ _ _
      | exact LeO.none _
      | refine LeO.ite ?_ ?_
      | refine LeO.bind ?_ (fun _ => ?_)
    · intro y0 y1 y2 y3 y4 y5
      unfold soffitref01_dec.l0
      repeat' first
      | (with_reducible exact ih0 _ _ _ _)
      | (with_reducible exact ih1 _ _ _)
      | (with_reducible exact ih2 _ _ _ _ _)
      | (with_reducible exact ih3 _ _ _)
      | (with_reducible exact ih4 _ _ _ _ _ _)
      | (with_reducible exact ih5 _ _ _ _ _)
      | (with_reducible exact soffitref01_plus.mono _ _ _)
      | (with_reducible exact LeO.refl _)
      | (with_reducible exact LeO.none _)
      | (with_reducible refine LeO.ite ?_ ?_)
      | (with_reducible refine LeO.bind ?_ (fun _ => ?_))
      | exact ih0 _ _ _ _
      | exact ih1 _ _ _
      | exact ih2 _ _ _ _ _
      | exact ih3 _ _ _
      | exact ih4 _ _ _ _ _ _
      | exact ih5 _ _ _ _ _
      | exact soffitref01_plus.mono _ _ _
      | exact LeO.none _
      | refine LeO.ite ?_ ?_
      | refine LeO.bind ?_ (fun _ => ?_)
    · intro y0 y1 y2 y3 y4
      unfold soffitref01_dec.j1
      repeat' first
      | (with_reducible exact ih0 _ _ _ _)
      | (with_reducible exact ih1 _ _ _)
      | (with_reducible exact ih2 _ _ _ _ _)
      | (with_reducible exact ih3 _ _ _)
      | (with_reducible exact ih4 _ _ _ _ _ _)
      | (with_reducible exact ih5 _ _ _ _ _)
      | (with_reducible exact soffitref01_plus.mono _ _ _)
      | (with_reducible exact LeO.refl _)
      | (with_reducible exact LeO.none _)
      | (with_reducible refine LeO.ite ?_ ?_)
      | (with_reducible refine LeO.bind ?_ (fun _ => ?_))
      | exact ih0 _ _ _ _
      | exact ih1 _ _ _
      | exact ih2 _ _ _ _ _
      | exact ih3 _ _ _
      | exact ih4 _ _ _ _ _ _
      | exact ih5 _ _ _ _ _
      | exact soffitref01_plus.mono _ _ _
      | exact LeO.none _
      | refine LeO.ite ?_ ?_
      | refine LeO.bind ?_ (fun _ => ?_)
theorem soffitref01_dec.mono : ∀ a0 a1 a2 k, LeO (soffitref01_dec.f k a0 a1 a2) (soffitref01_dec.f (k + 1) a0 a1 a2) := by
  intro a0 a1 a2 k
  obtain ⟨ih0, ih1, ih2, ih3, ih4, ih5⟩ := soffitref01_dec.mono_l k
  unfold soffitref01_dec.f
  repeat' first
      | (with_reducible exact ih0 _ _ _ _)
      | (with_reducible exact ih1 _ _ _)
      | (with_reducible exact ih2 _ _ _ _ _)
      | (with_reducible exact ih3 _ _ _)
      | (with_reducible exact ih4 _ _ _ _ _ _)
      | (with_reducible exact ih5 _ _ _ _ _)
      | (with_reducible exact soffitref01_plus.mono _ _ _)
      | (with_reducible exact LeO.refl _)
      | (with_reducible exact LeO.none _)
      | (with_reducible refine LeO.ite ?_ ?_)
      | (with_reducible refine LeO.bind ?_ (fun _ => ?_))
      | exact ih0 _ _ _ _
      | exact ih1 _ _ _
      | exact ih2 _ _ _ _ _
      | exact ih3 _ _ _
      | exact ih4 _ _ _ _ _ _
      | exact ih5 _ _ _ _ _
      | exact soffitref01_plus.mono _ _ _
      | exact LeO.none _
      | refine LeO.ite ?_ ?_
      | refine LeO.bind ?_ (fun _ => ?_)
set_option maxHeartbeats 8000000 in
set_option maxRecDepth 100000 in
theorem soffitref01_dec.calls (k : Nat) (P0_ : Nat → Prop) (A0 : Option Addr) (c0 : Nat) (l0 : List Int) (a1 : Int) (a2 : Bool) (r1 : Int) (r2 : Int) (r3 : Int) (w : World) (hs0 : Kd.V (Kd.int .i64) 3 w w.heap.size (fun k_ => P0_ k_) (.slice A0 l0.length c0) l0) (h : soffitref01_dec.f k l0 a1 a2 = some (r1, r2, r3)) :
    Calls Tryd.prog 34 #[.slice A0 l0.length c0, .int .i64 a1, .bool a2] w fun e w' => e = .returned (.tuple #[.agg #[.int .i64 r1, .int .i64 r2], .int .i64 r3]) ∧ Below w.heap.size w w' := by
  have hu23 := Tryd.underlying23
  have HO0 := Aside0.mk (show Kd.V (Kd.int .i64) 3 w w.heap.size (fun k_ => (P0_ k_ ∨ w.heap.size ≤ k_)) (.slice A0 l0.length c0) l0 from Kd.V_mono hs0 (fun k_ hk => .inl hk))
  have HB := Aside0.mk (Below.refl w.heap.size w)
  have H : (if (wrap64 (a1 - 6)) > 0 then (soffitref01_dec.l0 k l0 a2 (wrap64 (a1 - 6)) 0 0 0) else (soffitref01_dec.j2 k l0 a1 a2 0)) = some (r1, r2, r3) := h
  clear h
  have HC4 := Aside0.mk H
  clear H
  go_enter Tryd.func34, Tryd.ntmps34
  go_upto_if 20 with (first | ((with_reducible refine gate_dst (N := 6) rfl ?_); refine box_event ?hg (N := 6) ?hd (cs := #[.int .i64 0, .int .i64 0]) (t := 23) ?hr ?_; (case hd => rfl); (case hg => rfl); (case hr => first | (go_simp; done) | (go_simp; rfl)); intro gb205 hg w5 hbox hb; have n0_ := Aside0.mk (Kd.V_below (Kd.V_elderB (by (with_reducible repeat (first | apply Kd.V_alloc | apply Kd.V_drewN | apply Kd.V_drew)); exact HO0.out) gb205 (Nat.le_of_eq hg.symm)) hb); have n1_ := Aside0.mk (below_step (by repeat (first | (with_reducible first | exact HB.out | apply below_alloc | apply pw_below_drewN | apply below_drew1) | exact HB.out)) hb); have n2_ := Aside0.mk (hbox); have n3_ := Aside0.mk ((by rw [hg]; exact (below_size (by repeat (first | (with_reducible first | exact HB.out | apply below_alloc | apply pw_below_drewN | apply below_drew1) | exact HB.out))) : w.heap.size ≤ gb205)); have n4_ := Aside0.mk ((by rw [hg]; exact (below_size (by repeat (first | (with_reducible first | exact HB.out | apply below_alloc | apply pw_below_drewN | apply below_drew1) | exact HB.out))) : w.heap.size ≤ gb205)); clear HO0; clear HB; have HO0 := n0_; have HB := n1_; have BK205 := n2_; have GW205 := n3_; have GE205 := n4_; clear n0_ n1_ n2_ n3_ n4_; clear hb hbox hg))
  (try simp only [Act.put, List.setIfInBounds_toArray, List.set_cons_zero, List.set_cons_succ])
  go_cut [0, 1, 9] (fun v0 v1 v9 wc => ∃ (kq : Nat) (x0_3 : List Int) (x1_3 : Int) (x9_3 : Int), v1 = .int .i64 x1_3 ∧ v9 = .int .i64 x9_3 ∧ Aside0 (soffitref01_dec.j2 kq x0_3 x1_3 a2 x9_3 = some (r1, r2, r3)) ∧ Aside0 (kq ≤ k) ∧ Aside0 (Kd.V (Kd.int .i64) 3 wc w.heap.size (fun k_ => (P0_ k_ ∨ w.heap.size ≤ k_) ∧ k_ ≠ gb205) v0 x0_3) ∧ Aside0 (wc.heap[gb205]? = some (.cells #[.int .i64 0, .int .i64 0] 23 (0, 0))) ∧ Aside0 (Below w.heap.size w wc))
  case first =>
    have H := HC4.out
    clear HC4
    by_cases c6 : (wrap64 (a1 - 6)) > 0
    · rw [if_pos c6] at H
      have c6b0 : decide (0 < (wrap64 (a1 - 6))) = true := decide_eq_true c6
      clear c6
      (first | rw [c6b0] | (simp only [i64_w, i32_w]; rw [c6b0]) | skip)
      have H' := Aside0.mk H
      clear H
      go_wp2
      (try simp only [Act.put, List.setIfInBounds_toArray, List.set_cons_succ, List.set_cons_zero])
      go_loopg [10, 11] k (fun kq v10 v11 w' => ∃ (x10_1 : Int) (x11_1 : Int), v10 = .int .i64 x10_1 ∧ v11 = .int .i64 x11_1 ∧ Aside0 (soffitref01_dec.l0 kq l0 a2 (wrap64 (a1 - 6)) 0 x10_1 x11_1 = some (r1, r2, r3)) ∧ Aside0 (kq ≤ k) ∧ Aside0 (Kd.V (Kd.int .i64) 3 w' w.heap.size (fun k_ => (P0_ k_ ∨ w.heap.size ≤ k_) ∧ k_ ≠ gb205) (.slice A0 l0.length c0) l0) ∧ Aside0 (w'.heap[gb205]? = some (.cells #[.int .i64 0, .int .i64 0] 23 (0, 0))) ∧ Aside0 (Below w.heap.size w w'))
      case atStart => exact ⟨(0), (0), (by first | rfl | (simp; done) | (simp [*]; done)), (by first | rfl | (simp; done) | (simp [*]; done)), H', ⟨Nat.le_refl _⟩, ⟨by (with_reducible repeat (first | apply Kd.V_alloc | apply Kd.V_drewN | apply Kd.V_drew)); exact HO0.out⟩, ⟨by (with_reducible repeat (first | refine blk_drewN ?_ _ | refine blk_drew ?_ | refine blk_alloc ?_ _)); exact BK205.out⟩, ⟨by repeat (first | (with_reducible first | exact HB.out | apply below_alloc | apply pw_below_drewN | apply below_drew1 | refine below_set ?_ GE205.out) | exact HB.out)⟩⟩
      case round =>
        clear H'
        try clear p2
        try clear c3
        try clear c6
        try clear c6b0
        try clear p6
        obtain ⟨x10_1, x11_1, rfl, rfl, HA, HK1, HO_0, BK205, HB⟩ := hrel
        cases gk with
        | zero => exact absurd HA.out (by simp [soffitref01_dec.l0])
        | succ k1 =>
          have H := HA.out
          clear HA
          simp only [soffitref01_dec.l0] at H
          by_cases c7 : x11_1 < (wrap64 ((wrap64 (a1 - 6)) - 1))
          · rw [if_pos c7] at H
            have c7b0 : decide (x11_1 < (wrap64 ((wrap64 (a1 - 6)) - 1))) = true := decide_eq_true c7
            clear c7
            by_cases c8 : 0 ≤ x11_1
            · rw [if_pos c8] at H
              have c8b0 : decide (0 ≤ x11_1) = true := decide_eq_true c8
              clear c8
              by_cases c9 : x11_1 < (l0.length : Int)
              · rw [if_pos c9] at H
                have c9b0 : decide (x11_1 < (l0.length : Int)) = true := decide_eq_true c9
                clear c9
                have H' := Aside0.mk H
                clear H
                have p206 : 0 ≤ (x11_1 : Int) := of_decide_eq_true (by first | (with_reducible assumption) | assumption)
                have q206 : x11_1 < (l0.length : Int) := of_decide_eq_true (by first | (with_reducible assumption) | assumption)
                obtain ⟨ad206, e206, hx206_0⟩ := Kd.at_int (Kd.V_reads' HO_0.out).2.2 x11_1 p206 q206
                cases e206
                replace p206 := eq_true p206
                replace q206 := eq_true q206
                go_wp2
                go_roundg k1
                case measure => have := HK1.out; omega
                case rel => exact ⟨(wrap64 (x10_1 + (rd l0 x11_1))), (wrap64 (x11_1 + 1)), (by first | rfl | (simp; done) | (simp [*]; done)), (by first | rfl | (simp; done) | (simp [*]; done)), H', ⟨by have := HK1.out; omega⟩, ⟨by (with_reducible repeat (first | apply Kd.V_alloc | apply Kd.V_drewN | apply Kd.V_drew)); exact HO_0.out⟩, ⟨by (with_reducible repeat (first | refine blk_drewN ?_ _ | refine blk_drew ?_ | refine blk_alloc ?_ _)); exact BK205.out⟩, ⟨by repeat (first | (with_reducible first | exact HB.out | apply below_alloc | apply pw_below_drewN | apply below_drew1 | refine below_set ?_ GE205.out) | exact HB.out)⟩⟩
              · rw [if_neg c9] at H
                exact absurd H (by simp)
            · rw [if_neg c8] at H
              exact absurd H (by simp)
          · rw [if_neg c7] at H
            have c7b0 : decide (x11_1 < (wrap64 ((wrap64 (a1 - 6)) - 1))) = false := decide_eq_false c7
            clear c7
            obtain ⟨ji10, hji10⟩ : ∃ j_ : Int, (wrap64 ((wrap64 (a1 - 6)) - 1)) = j_ := ⟨_, rfl⟩
            replace H : (if 0 ≤ (ji10) then (if (ji10) < (l0.length : Int) then (if 0 ≤ (wrap64 (a1 - 6)) then (if (wrap64 (a1 - 6)) < (l0.length : Int) then (if (rd l0 (ji10)) > 5 then (soffitref01_dec.j1 k1 l0 a2 (wrap64 (a1 - 6)) 0 true) else (if (rd l0 (ji10)) = 5 then (if x10_1 > 0 then (soffitref01_dec.j1 k1 l0 a2 (wrap64 (a1 - 6)) 0 true) else (soffitref01_dec.j1 k1 l0 a2 (wrap64 (a1 - 6)) 0 ((Int.tmod (rd l0 (wrap64 (a1 - 6))) 2) == 1))) else (soffitref01_dec.j1 k1 l0 a2 (wrap64 (a1 - 6)) 0 false))) else (none)) else (none)) else (none)) else (none)) = some (r1, r2, r3) := by first | (rw [hji10] at H; exact H) | (simp only [hji10] at H ⊢; exact H)
            (try rw [hji10] at c7b0)
            have hji10w : (IntKind.i64.wrap ((wrap64 (a1 - 6)) - 1)) = ji10 := (i64_w _).trans hji10
            by_cases c11 : 0 ≤ (ji10)
            · rw [if_pos c11] at H
              have c11b0 : decide (0 ≤ (ji10)) = true := decide_eq_true c11
              clear c11
              by_cases c12 : (ji10) < (l0.length : Int)
              · rw [if_pos c12] at H
                have c12b0 : decide ((ji10) < (l0.length : Int)) = true := decide_eq_true c12
                clear c12
                obtain ⟨ji13, hji13⟩ : ∃ j_ : Int, (wrap64 (a1 - 6)) = j_ := ⟨_, rfl⟩
                replace H : (if 0 ≤ (ji13) then (if (ji13) < (l0.length : Int) then (if (rd l0 (ji10)) > 5 then (soffitref01_dec.j1 k1 l0 a2 (ji13) 0 true) else (if (rd l0 (ji10)) = 5 then (if x10_1 > 0 then (soffitref01_dec.j1 k1 l0 a2 (ji13) 0 true) else (soffitref01_dec.j1 k1 l0 a2 (ji13) 0 ((Int.tmod (rd l0 (ji13)) 2) == 1))) else (soffitref01_dec.j1 k1 l0 a2 (ji13) 0 false))) else (none)) else (none)) = some (r1, r2, r3) := by first | (rw [hji13] at H; exact H) | (simp only [hji13] at H ⊢; exact H)
                (try rw [hji13] at c6b0)
                (try rw [hji13] at c7b0)
                have hji13w : (IntKind.i64.wrap (a1 - 6)) = ji13 := (i64_w _).trans hji13
                (try (have hji10_13 := hji10; rw [hji13] at hji10_13)); (try (have hji10w_13 := hji10w; rw [hji13] at hji10w_13))
                by_cases c14 : 0 ≤ (ji13)
                · rw [if_pos c14] at H
                  have c14b0 : decide (0 ≤ (ji13)) = true := decide_eq_true c14
                  clear c14
                  by_cases c15 : (ji13) < (l0.length : Int)
                  · rw [if_pos c15] at H
                    have c15b0 : decide ((ji13) < (l0.length : Int)) = true := decide_eq_true c15
                    clear c15
                    have HC16 := Aside0.mk H
                    clear H
                    have p207 : 0 ≤ ((ji10) : Int) := of_decide_eq_true (by first | (with_reducible assumption) | assumption)
                    have q207 : (ji10) < (l0.length : Int) := of_decide_eq_true (by first | (with_reducible assumption) | assumption)
                    obtain ⟨ad207, e207, hx207_0⟩ := Kd.at_int (Kd.V_reads' HO_0.out).2.2 (ji10) p207 q207
                    cases e207
                    replace p207 := eq_true p207
                    replace q207 := eq_true q207
                    have p208 : 0 ≤ ((ji13) : Int) := of_decide_eq_true (by first | (with_reducible assumption) | assumption)
                    have q208 : (ji13) < (l0.length : Int) := of_decide_eq_true (by first | (with_reducible assumption) | assumption)
                    obtain ⟨ad208, e208, hx208_0⟩ := Kd.at_int (Kd.V_reads' HO_0.out).2.2 (ji13) p208 q208
                    obtain rfl : ad207 = ad208 := (by injection e208)
                    replace p208 := eq_true p208
                    replace q208 := eq_true q208
                    go_upto_region 11 with (fail)
                    go_cut [56] (fun v56 wc => ∃ (kq : Nat) (x56_15 : Bool), v56 = .bool x56_15 ∧ Aside0 (soffitref01_dec.j1 kq l0 a2 (ji13) 0 x56_15 = some (r1, r2, r3)) ∧ Aside0 (kq ≤ k1) ∧ Aside0 (Kd.V (Kd.int .i64) 3 wc w.heap.size (fun k_ => (P0_ k_ ∨ w.heap.size ≤ k_) ∧ k_ ≠ gb205) (.slice (some ad207) l0.length c0) l0) ∧ Aside0 (wc.heap[gb205]? = some (.cells #[.int .i64 0, .int .i64 0] 23 (0, 0))) ∧ Aside0 (Below w.heap.size w wc))
                    case first =>
                      have H := HC16.out
                      clear HC16
                      by_cases c17 : (rd l0 (ji10)) > 5
                      · rw [if_pos c17] at H
                        have c17b0 : decide (5 < (rd l0 (ji10))) = true := decide_eq_true c17
                        clear c17
                        (first | rw [c17b0] | (simp only [i64_w, i32_w]; rw [c17b0]) | skip)
                        have H' := Aside0.mk H
                        clear H
                        go_wp2
                        first | (go_meet; (case rel => exact ⟨_, (true), (by first | rfl | (simp; done) | (simp [*]; done)), H', ⟨by have := HK1.out; first | omega | exact Nat.le_refl _⟩, ⟨by (with_reducible repeat (first | apply Kd.V_alloc | apply Kd.V_drewN | apply Kd.V_drew)); exact HO_0.out⟩, ⟨by (with_reducible repeat (first | refine blk_drewN ?_ _ | refine blk_drew ?_ | refine blk_alloc ?_ _)); exact BK205.out⟩, ⟨by repeat (first | (with_reducible first | exact HB.out | apply below_alloc | apply pw_below_drewN | apply below_drew1 | refine below_set ?_ GE205.out) | exact HB.out)⟩⟩)) | (subst hji13; go_meet; (case rel => exact ⟨_, (true), (by first | rfl | (simp; done) | (simp [*]; done)), H', ⟨by have := HK1.out; first | omega | exact Nat.le_refl _⟩, ⟨by (with_reducible repeat (first | apply Kd.V_alloc | apply Kd.V_drewN | apply Kd.V_drew)); exact HO_0.out⟩, ⟨by (with_reducible repeat (first | refine blk_drewN ?_ _ | refine blk_drew ?_ | refine blk_alloc ?_ _)); exact BK205.out⟩, ⟨by repeat (first | (with_reducible first | exact HB.out | apply below_alloc | apply pw_below_drewN | apply below_drew1 | refine below_set ?_ GE205.out) | exact HB.out)⟩⟩)) | (subst hji10; go_meet; (case rel => exact ⟨_, (true), (by first | rfl | (simp; done) | (simp [*]; done)), H', ⟨by have := HK1.out; first | omega | exact Nat.le_refl _⟩, ⟨by (with_reducible repeat (first | apply Kd.V_alloc | apply Kd.V_drewN | apply Kd.V_drew)); exact HO_0.out⟩, ⟨by (with_reducible repeat (first | refine blk_drewN ?_ _ | refine blk_drew ?_ | refine blk_alloc ?_ _)); exact BK205.out⟩, ⟨by repeat (first | (with_reducible first | exact HB.out | apply below_alloc | apply pw_below_drewN | apply below_drew1 | refine below_set ?_ GE205.out) | exact HB.out)⟩⟩))
                      · rw [if_neg c17] at H
                        have c17b0 : decide (5 < (rd l0 (ji10))) = false := decide_eq_false c17
                        clear c17
                        (first | rw [c17b0] | (simp only [i64_w, i32_w]; rw [c17b0]) | skip)
                        by_cases c18 : (rd l0 (ji10)) = 5
                        · rw [if_pos c18] at H
                          have c18b0 : ((rd l0 (ji10)) == 5) = true := beq_iff_eq.mpr c18
                          have c18b1 : ((rd l0 (ji10)) != 5) = false := bne_eq_false_iff_eq.mpr c18
                          clear c18
                          by_cases c19 : x10_1 > 0
                          · rw [if_pos c19] at H
                            have c19b0 : decide (0 < x10_1) = true := decide_eq_true c19
                            clear c19
                            have H' := Aside0.mk H
                            clear H
                            go_wp2
                            first | (go_meet; (case rel => exact ⟨_, (true), (by first | rfl | (simp; done) | (simp [*]; done)), H', ⟨by have := HK1.out; first | omega | exact Nat.le_refl _⟩, ⟨by (with_reducible repeat (first | apply Kd.V_alloc | apply Kd.V_drewN | apply Kd.V_drew)); exact HO_0.out⟩, ⟨by (with_reducible repeat (first | refine blk_drewN ?_ _ | refine blk_drew ?_ | refine blk_alloc ?_ _)); exact BK205.out⟩, ⟨by repeat (first | (with_reducible first | exact HB.out | apply below_alloc | apply pw_below_drewN | apply below_drew1 | refine below_set ?_ GE205.out) | exact HB.out)⟩⟩)) | (subst hji13; go_meet; (case rel => exact ⟨_, (true), (by first | rfl | (simp; done) | (simp [*]; done)), H', ⟨by have := HK1.out; first | omega | exact Nat.le_refl _⟩, ⟨by (with_reducible repeat (first | apply Kd.V_alloc | apply Kd.V_drewN | apply Kd.V_drew)); exact HO_0.out⟩, ⟨by (with_reducible repeat (first | refine blk_drewN ?_ _ | refine blk_drew ?_ | refine blk_alloc ?_ _)); exact BK205.out⟩, ⟨by repeat (first | (with_reducible first | exact HB.out | apply below_alloc | apply pw_below_drewN | apply below_drew1 | refine below_set ?_ GE205.out) | exact HB.out)⟩⟩)) | (subst hji10; go_meet; (case rel => exact ⟨_, (true), (by first | rfl | (simp; done) | (simp [*]; done)), H', ⟨by have := HK1.out; first | omega | exact Nat.le_refl _⟩, ⟨by (with_reducible repeat (first | apply Kd.V_alloc | apply Kd.V_drewN | apply Kd.V_drew)); exact HO_0.out⟩, ⟨by (with_reducible repeat (first | refine blk_drewN ?_ _ | refine blk_drew ?_ | refine blk_alloc ?_ _)); exact BK205.out⟩, ⟨by repeat (first | (with_reducible first | exact HB.out | apply below_alloc | apply pw_below_drewN | apply below_drew1 | refine below_set ?_ GE205.out) | exact HB.out)⟩⟩))
                          · rw [if_neg c19] at H
                            have c19b0 : decide (0 < x10_1) = false := decide_eq_false c19
                            clear c19
                            have H' := Aside0.mk H
                            clear H
                            go_wp2
                            first | (go_meet; (case rel => exact ⟨_, (((Int.tmod (rd l0 (ji13)) 2) == 1)), (by first | rfl | (simp; done) | (simp only [← hji13] <;> (first | rfl | simp)) | (simp [*]; done)), H', ⟨by have := HK1.out; first | omega | exact Nat.le_refl _⟩, ⟨by (with_reducible repeat (first | apply Kd.V_alloc | apply Kd.V_drewN | apply Kd.V_drew)); exact HO_0.out⟩, ⟨by (with_reducible repeat (first | refine blk_drewN ?_ _ | refine blk_drew ?_ | refine blk_alloc ?_ _)); exact BK205.out⟩, ⟨by repeat (first | (with_reducible first | exact HB.out | apply below_alloc | apply pw_below_drewN | apply below_drew1 | refine below_set ?_ GE205.out) | exact HB.out)⟩⟩)) | (subst hji13; go_meet; (case rel => exact ⟨_, (((Int.tmod (rd l0 ((wrap64 (a1 - 6)))) 2) == 1)), (by first | rfl | (simp; done) | (simp only [← Nat.add_zero] <;> (first | rfl | simp)) | (simp [*]; done)), H', ⟨by have := HK1.out; first | omega | exact Nat.le_refl _⟩, ⟨by (with_reducible repeat (first | apply Kd.V_alloc | apply Kd.V_drewN | apply Kd.V_drew)); exact HO_0.out⟩, ⟨by (with_reducible repeat (first | refine blk_drewN ?_ _ | refine blk_drew ?_ | refine blk_alloc ?_ _)); exact BK205.out⟩, ⟨by repeat (first | (with_reducible first | exact HB.out | apply below_alloc | apply pw_below_drewN | apply below_drew1 | refine below_set ?_ GE205.out) | exact HB.out)⟩⟩)) | (subst hji10; go_meet; (case rel => exact ⟨_, (((Int.tmod (rd l0 (ji13)) 2) == 1)), (by first | rfl | (simp; done) | (simp only [← hji13] <;> (first | rfl | simp)) | (simp [*]; done)), H', ⟨by have := HK1.out; first | omega | exact Nat.le_refl _⟩, ⟨by (with_reducible repeat (first | apply Kd.V_alloc | apply Kd.V_drewN | apply Kd.V_drew)); exact HO_0.out⟩, ⟨by (with_reducible repeat (first | refine blk_drewN ?_ _ | refine blk_drew ?_ | refine blk_alloc ?_ _)); exact BK205.out⟩, ⟨by repeat (first | (with_reducible first | exact HB.out | apply below_alloc | apply pw_below_drewN | apply below_drew1 | refine below_set ?_ GE205.out) | exact HB.out)⟩⟩))
                        · rw [if_neg c18] at H
                          have c18b0 : ((rd l0 (ji10)) == 5) = false := beq_eq_false_iff_ne.mpr c18
                          have c18b1 : ((rd l0 (ji10)) != 5) = true := bne_iff_ne.mpr c18
                          have H' := Aside0.mk H
                          clear H
                          go_wp2
                          first | (go_meet; (case rel => exact ⟨_, (false), (by first | rfl | (simp; done) | (simp [*]; done)), H', ⟨by have := HK1.out; first | omega | exact Nat.le_refl _⟩, ⟨by (with_reducible repeat (first | apply Kd.V_alloc | apply Kd.V_drewN | apply Kd.V_drew)); exact HO_0.out⟩, ⟨by (with_reducible repeat (first | refine blk_drewN ?_ _ | refine blk_drew ?_ | refine blk_alloc ?_ _)); exact BK205.out⟩, ⟨by repeat (first | (with_reducible first | exact HB.out | apply below_alloc | apply pw_below_drewN | apply below_drew1 | refine below_set ?_ GE205.out) | exact HB.out)⟩⟩)) | (subst hji13; go_meet; (case rel => exact ⟨_, (false), (by first | rfl | (simp; done) | (simp [*]; done)), H', ⟨by have := HK1.out; first | omega | exact Nat.le_refl _⟩, ⟨by (with_reducible repeat (first | apply Kd.V_alloc | apply Kd.V_drewN | apply Kd.V_drew)); exact HO_0.out⟩, ⟨by (with_reducible repeat (first | refine blk_drewN ?_ _ | refine blk_drew ?_ | refine blk_alloc ?_ _)); exact BK205.out⟩, ⟨by repeat (first | (with_reducible first | exact HB.out | apply below_alloc | apply pw_below_drewN | apply below_drew1 | refine below_set ?_ GE205.out) | exact HB.out)⟩⟩)) | (subst hji10; go_meet; (case rel => exact ⟨_, (false), (by first | rfl | (simp; done) | (simp [*]; done)), H', ⟨by have := HK1.out; first | omega | exact Nat.le_refl _⟩, ⟨by (with_reducible repeat (first | apply Kd.V_alloc | apply Kd.V_drewN | apply Kd.V_drew)); exact HO_0.out⟩, ⟨by (with_reducible repeat (first | refine blk_drewN ?_ _ | refine blk_drew ?_ | refine blk_alloc ?_ _)); exact BK205.out⟩, ⟨by repeat (first | (with_reducible first | exact HB.out | apply below_alloc | apply pw_below_drewN | apply below_drew1 | refine below_set ?_ GE205.out) | exact HB.out)⟩⟩))
                    case rest =>
                      clear HC16
                      try clear c1
                      try clear p2
                      try clear q2
                      try clear hx2
                      try clear c3
                      try clear c6
                      try clear c6b0
                      try clear p6
                      try clear c7
                      try clear c7b0
                      try clear c8
                      try clear c8b0
                      try clear c9
                      try clear c9b0
                      try clear c11
                      try clear c11b0
                      try clear c12
                      try clear c12b0
                      try clear c14
                      try clear c14b0
                      try clear c15
                      try clear c15b0
                      try clear c17
                      try clear c17b0
                      try clear c18
                      try clear c18b0
                      try clear c18b1
                      try clear c19
                      try clear c19b0
                      try clear hx206_0
                      try clear hx207_0
                      try clear hx208_0
                      try clear p2
                      try clear p206
                      try clear p207
                      try clear p208
                      try clear p6
                      try clear q206
                      try clear q207
                      try clear q208
                      obtain ⟨kq, x56_15, rfl, HA, HJ15, HO_0, BK205, HB⟩ := hcut
                      cases kq with
                      | zero => exact absurd HA.out (by simp [soffitref01_dec.j1])
                      | succ kj15 =>
                        have H := HA.out
                        clear HA
                        simp only [soffitref01_dec.j1] at H
                        by_cases c20 : x56_15 = true
                        · subst c20
                          have H1 : (if 0 ≤ (ji13) then (if (ji13) ≤ (l0.length : Int) then (soffitref01_dec.j2 kj15 (l0.drop ((ji13) : Int).toNat) 6 a2 1) else (none)) else (none)) = some (r1, r2, r3) := by rw [if_pos rfl] at H; exact H
                          clear H
                          have H := H1
                          clear H1
                          by_cases c21 : 0 ≤ (ji13)
                          · rw [if_pos c21] at H
                            have c21b0 := eq_true c21
                            have c21b1 : decide (0 ≤ (ji13)) = true := decide_eq_true c21
                            clear c21
                            by_cases c22 : (ji13) ≤ (l0.length : Int)
                            · rw [if_pos c22] at H
                              have c22b0 := eq_true c22
                              have c22b1 : decide ((ji13) ≤ (l0.length : Int)) = true := decide_eq_true c22
                              clear c22
                              obtain ⟨y209, hy209⟩ : ∃ y_ : List Int, y_ = (l0.drop ((ji13) : Int).toNat) := ⟨_, rfl⟩
                              replace H : (soffitref01_dec.j2 kj15 y209 6 a2 1) = some (r1, r2, r3) := by first | (rw [hy209]; with_reducible exact H) | (have H2_ := (Option.bind_some _ _).symm.trans H; rw [hy209]; with_reducible exact H2_) | (have H2_ := (Option.bind_some _ _).symm.trans H; with_reducible exact H2_) | with_reducible exact H | (rw [hy209]; exact H) | exact H
                              have Ny209 := Aside0.mk hy209
                              clear hy209
                              have H' := Aside0.mk H
                              clear H
                              have q23 : ((ji13) : Int) ≤ ((l0.length : Int) : Int) := of_decide_eq_true (by first | (with_reducible assumption) | assumption)
                              obtain ⟨i023, hi023, _, hsz23, _⟩ := info_parts info3
                              have hroom23 : l0.length ≤ c0 := (Kd.V_reads' HO_0.out).2.1
                              have hC23 : Kd.F (Kd.int .i64) _ _ (some ad207) l0.length l0 := (Kd.V_at (base := w.heap.size) HO_0.out).2.2
                              have q023 : (0 : Int) ≤ ((ji13) : Int) := of_decide_eq_true (by first | (with_reducible assumption) | assumption)
                              have hcut23 := cut_from (P := Tryd.prog) 55 3 .i64 Tryd.underlying55 hi023 1 hsz23 (some ad207) l0.length c0 (ji13) q023 q23
                              have hr23 := Kd.F_cut (m := ((ji13) : Int).toNat) (c := c0) hC23 (by omega) hroom23
                              obtain ⟨A23, hA23⟩ : ∃ A1, A1 = (if c0 = ((ji13) : Int).toNat then (some ad207) else ((some ad207) : Option Addr).map (·.add (((ji13) : Int).toNat * 1))) := ⟨_, rfl⟩
                              obtain ⟨c23, hc23⟩ : ∃ c1, c1 = c0 - ((ji13) : Int).toNat := ⟨_, rfl⟩
                              have hy23 : y209.length = l0.length - ((ji13) : Int).toNat := (by rw [Ny209.out, List.length_drop] <;> omega)
                              rw [show (l0).drop ((ji13) : Int).toNat = y209 from Ny209.out.symm] at hr23
                              replace hr23 : Kd.F (Kd.int .i64) _ _ A23 y209.length y209 := (by rw [hA23]; exact hr23)
                              rw [← hy23, ← hA23, ← hc23] at hcut23
                              have HO213 := Aside0.mk (show Kd.V (Kd.int .i64) 3 _ w.heap.size _ (.slice A23 y209.length c23) y209 from Kd.V_mk (by rw [hy23, hc23]; exact Nat.sub_le_sub_right hroom23 _) hr23)
                              have HC213 := Aside0.mk (show y209.length ≤ c23 from by rw [hy23, hc23]; exact Nat.sub_le_sub_right hroom23 _)
                              clear hr23 hC23 hroom23 hi023 hsz23 hc23
                              have KY23 := Aside0.mk hy23
                              have KA23 := Aside0.mk hA23
                              clear hy23 hA23
                              replace q23 := eq_true q23
                              go_wp2
                              first | (go_meet; (case rel => exact ⟨_, (y209), (6), (1), (by first | rfl | (simp; done) | (simp [*]; done)), (by first | rfl | (simp; done) | (simp [*]; done)), H', ⟨by have := HK1.out; have := HJ15.out; first | omega | exact Nat.le_refl _⟩, ⟨by (with_reducible repeat (first | apply Kd.V_alloc | apply Kd.V_drewN | apply Kd.V_drew)); exact HO213.out⟩, ⟨by (with_reducible repeat (first | refine blk_drewN ?_ _ | refine blk_drew ?_ | refine blk_alloc ?_ _)); exact BK205.out⟩, ⟨by repeat (first | (with_reducible first | exact HB.out | apply below_alloc | apply pw_below_drewN | apply below_drew1 | refine below_set ?_ GE205.out) | exact HB.out)⟩⟩)) | (subst hji13; go_meet; (case rel => exact ⟨_, (y209), (6), (1), (by first | rfl | (simp; done) | (simp [*]; done)), (by first | rfl | (simp; done) | (simp [*]; done)), H', ⟨by have := HK1.out; have := HJ15.out; first | omega | exact Nat.le_refl _⟩, ⟨by (with_reducible repeat (first | apply Kd.V_alloc | apply Kd.V_drewN | apply Kd.V_drew)); exact HO213.out⟩, ⟨by (with_reducible repeat (first | refine blk_drewN ?_ _ | refine blk_drew ?_ | refine blk_alloc ?_ _)); exact BK205.out⟩, ⟨by repeat (first | (with_reducible first | exact HB.out | apply below_alloc | apply pw_below_drewN | apply below_drew1 | refine below_set ?_ GE205.out) | exact HB.out)⟩⟩)) | (subst hji10; go_meet; (case rel => exact ⟨_, (y209), (6), (1), (by first | rfl | (simp; done) | (simp [*]; done)), (by first | rfl | (simp; done) | (simp [*]; done)), H', ⟨by have := HK1.out; have := HJ15.out; first | omega | exact Nat.le_refl _⟩, ⟨by (with_reducible repeat (first | apply Kd.V_alloc | apply Kd.V_drewN | apply Kd.V_drew)); exact HO213.out⟩, ⟨by (with_reducible repeat (first | refine blk_drewN ?_ _ | refine blk_drew ?_ | refine blk_alloc ?_ _)); exact BK205.out⟩, ⟨by repeat (first | (with_reducible first | exact HB.out | apply below_alloc | apply pw_below_drewN | apply below_drew1 | refine below_set ?_ GE205.out) | exact HB.out)⟩⟩))
                            · rw [if_neg c22] at H
                              exact absurd H (by simp)
                          · rw [if_neg c21] at H
                            exact absurd H (by simp)
                        · replace c20 := Bool.eq_false_iff.mpr c20
                          subst c20
                          have H1 : (if 0 ≤ (ji13) then (if (ji13) ≤ (l0.length : Int) then (soffitref01_dec.j2 kj15 (l0.drop ((ji13) : Int).toNat) 6 a2 0) else (none)) else (none)) = some (r1, r2, r3) := by rw [if_neg (show ¬ (false = true) by decide)] at H; exact H
                          clear H
                          have H := H1
                          clear H1
                          by_cases c24 : 0 ≤ (ji13)
                          · rw [if_pos c24] at H
                            have c24b0 := eq_true c24
                            have c24b1 : decide (0 ≤ (ji13)) = true := decide_eq_true c24
                            clear c24
                            by_cases c25 : (ji13) ≤ (l0.length : Int)
                            · rw [if_pos c25] at H
                              have c25b0 := eq_true c25
                              have c25b1 : decide ((ji13) ≤ (l0.length : Int)) = true := decide_eq_true c25
                              clear c25
                              obtain ⟨y214, hy214⟩ : ∃ y_ : List Int, y_ = (l0.drop ((ji13) : Int).toNat) := ⟨_, rfl⟩
                              replace H : (soffitref01_dec.j2 kj15 y214 6 a2 0) = some (r1, r2, r3) := by first | (rw [hy214]; with_reducible exact H) | (have H2_ := (Option.bind_some _ _).symm.trans H; rw [hy214]; with_reducible exact H2_) | (have H2_ := (Option.bind_some _ _).symm.trans H; with_reducible exact H2_) | with_reducible exact H | (rw [hy214]; exact H) | exact H
                              have Ny214 := Aside0.mk hy214
                              clear hy214
                              have H' := Aside0.mk H
                              clear H
                              have q26 : ((ji13) : Int) ≤ ((l0.length : Int) : Int) := of_decide_eq_true (by first | (with_reducible assumption) | assumption)
                              obtain ⟨i026, hi026, _, hsz26, _⟩ := info_parts info3
                              have hroom26 : l0.length ≤ c0 := (Kd.V_reads' HO_0.out).2.1
                              have hC26 : Kd.F (Kd.int .i64) _ _ (some ad207) l0.length l0 := (Kd.V_at (base := w.heap.size) HO_0.out).2.2
                              have q026 : (0 : Int) ≤ ((ji13) : Int) := of_decide_eq_true (by first | (with_reducible assumption) | assumption)
                              have hcut26 := cut_from (P := Tryd.prog) 55 3 .i64 Tryd.underlying55 hi026 1 hsz26 (some ad207) l0.length c0 (ji13) q026 q26
                              have hr26 := Kd.F_cut (m := ((ji13) : Int).toNat) (c := c0) hC26 (by omega) hroom26
                              obtain ⟨A26, hA26⟩ : ∃ A1, A1 = (if c0 = ((ji13) : Int).toNat then (some ad207) else ((some ad207) : Option Addr).map (·.add (((ji13) : Int).toNat * 1))) := ⟨_, rfl⟩
                              obtain ⟨c26, hc26⟩ : ∃ c1, c1 = c0 - ((ji13) : Int).toNat := ⟨_, rfl⟩
                              have hy26 : y214.length = l0.length - ((ji13) : Int).toNat := (by rw [Ny214.out, List.length_drop] <;> omega)
                              rw [show (l0).drop ((ji13) : Int).toNat = y214 from Ny214.out.symm] at hr26
                              replace hr26 : Kd.F (Kd.int .i64) _ _ A26 y214.length y214 := (by rw [hA26]; exact hr26)
                              rw [← hy26, ← hA26, ← hc26] at hcut26
                              have HO218 := Aside0.mk (show Kd.V (Kd.int .i64) 3 _ w.heap.size _ (.slice A26 y214.length c26) y214 from Kd.V_mk (by rw [hy26, hc26]; exact Nat.sub_le_sub_right hroom26 _) hr26)
                              have HC218 := Aside0.mk (show y214.length ≤ c26 from by rw [hy26, hc26]; exact Nat.sub_le_sub_right hroom26 _)
                              clear hr26 hC26 hroom26 hi026 hsz26 hc26
                              have KY26 := Aside0.mk hy26
                              have KA26 := Aside0.mk hA26
                              clear hy26 hA26
                              replace q26 := eq_true q26
                              go_wp2
                              first | (go_meet; (case rel => exact ⟨_, (y214), (6), (0), (by first | rfl | (simp; done) | (simp [*]; done)), (by first | rfl | (simp; done) | (simp [*]; done)), H', ⟨by have := HK1.out; have := HJ15.out; first | omega | exact Nat.le_refl _⟩, ⟨by (with_reducible repeat (first | apply Kd.V_alloc | apply Kd.V_drewN | apply Kd.V_drew)); exact HO218.out⟩, ⟨by (with_reducible repeat (first | refine blk_drewN ?_ _ | refine blk_drew ?_ | refine blk_alloc ?_ _)); exact BK205.out⟩, ⟨by repeat (first | (with_reducible first | exact HB.out | apply below_alloc | apply pw_below_drewN | apply below_drew1 | refine below_set ?_ GE205.out) | exact HB.out)⟩⟩)) | (subst hji13; go_meet; (case rel => exact ⟨_, (y214), (6), (0), (by first | rfl | (simp; done) | (simp [*]; done)), (by first | rfl | (simp; done) | (simp [*]; done)), H', ⟨by have := HK1.out; have := HJ15.out; first | omega | exact Nat.le_refl _⟩, ⟨by (with_reducible repeat (first | apply Kd.V_alloc | apply Kd.V_drewN | apply Kd.V_drew)); exact HO218.out⟩, ⟨by (with_reducible repeat (first | refine blk_drewN ?_ _ | refine blk_drew ?_ | refine blk_alloc ?_ _)); exact BK205.out⟩, ⟨by repeat (first | (with_reducible first | exact HB.out | apply below_alloc | apply pw_below_drewN | apply below_drew1 | refine below_set ?_ GE205.out) | exact HB.out)⟩⟩)) | (subst hji10; go_meet; (case rel => exact ⟨_, (y214), (6), (0), (by first | rfl | (simp; done) | (simp [*]; done)), (by first | rfl | (simp; done) | (simp [*]; done)), H', ⟨by have := HK1.out; have := HJ15.out; first | omega | exact Nat.le_refl _⟩, ⟨by (with_reducible repeat (first | apply Kd.V_alloc | apply Kd.V_drewN | apply Kd.V_drew)); exact HO218.out⟩, ⟨by (with_reducible repeat (first | refine blk_drewN ?_ _ | refine blk_drew ?_ | refine blk_alloc ?_ _)); exact BK205.out⟩, ⟨by repeat (first | (with_reducible first | exact HB.out | apply below_alloc | apply pw_below_drewN | apply below_drew1 | refine below_set ?_ GE205.out) | exact HB.out)⟩⟩))
                            · rw [if_neg c25] at H
                              exact absurd H (by simp)
                          · rw [if_neg c24] at H
                            exact absurd H (by simp)
                  · rw [if_neg c15] at H
                    exact absurd H (by simp)
                · rw [if_neg c14] at H
                  exact absurd H (by simp)
              · rw [if_neg c12] at H
                exact absurd H (by simp)
            · rw [if_neg c11] at H
              exact absurd H (by simp)
    · rw [if_neg c6] at H
      have c6b0 : decide (0 < (wrap64 (a1 - 6))) = false := decide_eq_false c6
      clear c6
      (first | rw [c6b0] | (simp only [i64_w, i32_w]; rw [c6b0]) | skip)
      have H' := Aside0.mk H
      clear H
      go_wp2
      go_meet
      case rel => exact ⟨_, (l0), (a1), (0), (by first | rfl | (simp; done) | (simp [*]; done)), (by first | rfl | (simp; done) | (simp [*]; done)), H', ⟨by first | omega | exact Nat.le_refl _⟩, ⟨by (with_reducible repeat (first | apply Kd.V_alloc | apply Kd.V_drewN | apply Kd.V_drew)); exact HO0.out⟩, ⟨by (with_reducible repeat (first | refine blk_drewN ?_ _ | refine blk_drew ?_ | refine blk_alloc ?_ _)); exact BK205.out⟩, ⟨by repeat (first | (with_reducible first | exact HB.out | apply below_alloc | apply pw_below_drewN | apply below_drew1 | refine below_set ?_ GE205.out) | exact HB.out)⟩⟩
  case rest =>
    clear HC4
    try clear c1
    try clear c2
    try clear p2
    try clear q2
    try clear hx2
    try clear c3
    try clear c6
    try clear c6b0
    try clear p6
    try clear c7
    try clear c7b0
    try clear c8
    try clear c8b0
    try clear c9
    try clear c9b0
    try clear c11
    try clear c11b0
    try clear c12
    try clear c12b0
    try clear c14
    try clear c14b0
    try clear c15
    try clear c15b0
    try clear c17
    try clear c17b0
    try clear c18
    try clear c18b0
    try clear c18b1
    try clear c19
    try clear c19b0
    try clear c20
    try clear p20
    try clear q20
    try clear hx20
    try clear c21
    try clear c21b0
    try clear c21b1
    try clear c22
    try clear c22b0
    try clear c22b1
    try clear c23
    try clear q23
    try clear c24
    try clear c24b0
    try clear c24b1
    try clear c25
    try clear c25b0
    try clear c25b1
    try clear c26
    try clear q26
    try clear hx206_0
    try clear hx207_0
    try clear hx208_0
    try clear p2
    try clear p206
    try clear p207
    try clear p208
    try clear p6
    try clear q023
    try clear q026
    try clear q2
    try clear q206
    try clear q207
    try clear q208
    try clear q23
    try clear q26
    obtain ⟨kq, x0_3, x1_3, x9_3, rfl, rfl, HA, HJ3, HO_0, BK205, HB⟩ := hcut
    cases kq with
    | zero => exact absurd HA.out (by simp [soffitref01_dec.j2])
    | succ kj3 =>
      have H := HA.out
      clear HA
      simp only [soffitref01_dec.j2] at H
      by_cases c27 : 0 ≤ (x0_3.length : Int)
      · rw [if_pos c27] at H
        have c27b0 := eq_true c27
        have c27b1 : decide (0 ≤ (x0_3.length : Int)) = true := decide_eq_true c27
        clear c27
        by_cases c28 : ((x0_3.length : Int) : Int).toNat ≤ 35184372088832
        · rw [if_pos c28] at H
          have c28b0 := eq_true c28
          have c28b1 : decide (((x0_3.length : Int) : Int).toNat ≤ 35184372088832) = true := decide_eq_true c28
          clear c28
          obtain ⟨y219, hy219⟩ : ∃ y_ : List Int, y_ = (List.replicate ((x0_3.length : Int) : Int).toNat 0) := ⟨_, rfl⟩
          replace H : (if 0 < (y219.length : Int) then ((soffitref01_plus.f kj3 x0_3 (y219.set (0 : Int).toNat x9_3)).bind fun t223 => (soffitref01_dec.l1 kj3 t223 x1_3 a2)) else (none)) = some (r1, r2, r3) := by first | (rw [hy219]; with_reducible exact H) | (have H2_ := (Option.bind_some _ _).symm.trans H; rw [hy219]; with_reducible exact H2_) | (have H2_ := (Option.bind_some _ _).symm.trans H; with_reducible exact H2_) | with_reducible exact H | (rw [hy219]; exact H) | exact H
          have Ny219 := Aside0.mk hy219
          clear hy219
          by_cases c29 : 0 < (y219.length : Int)
          · rw [if_pos c29] at H
            have c29b0 : decide (0 < (y219.length : Int)) = true := decide_eq_true c29
            have c29b1 : decide (0 < y219.length) = true := decide_eq_true (by omega)
            clear c29
            obtain ⟨y222, hy222⟩ : ∃ y_ : List Int, y_ = (y219.set (0 : Int).toNat x9_3) := ⟨_, rfl⟩
            replace H : ((soffitref01_plus.f kj3 x0_3 y222).bind fun t223 => (soffitref01_dec.l1 kj3 t223 x1_3 a2)) = some (r1, r2, r3) := by first | (rw [hy222]; with_reducible exact H) | (have H2_ := (Option.bind_some _ _).symm.trans H; rw [hy222]; with_reducible exact H2_) | (have H2_ := (Option.bind_some _ _).symm.trans H; with_reducible exact H2_) | with_reducible exact H | (rw [hy222]; exact H) | exact H
            have Ny222 := Aside0.mk hy222
            clear hy222
            replace H := Option.bind_eq_some_iff.mp H
            obtain ⟨t223, A310, H⟩ := H
            replace H : (soffitref01_dec.l1 kj3 t223 x1_3 a2) = some (r1, r2, r3) := H
            have A31 := Aside0.mk A310
            clear A310
            have HC32 := Aside0.mk H
            clear H
            obtain ⟨Ao33, co33, eo33⟩ := Kd.V_slice HO_0.out
            subst eo33
            go_upto_block 2 with (first | ((with_reducible refine gate_dst (N := 62) rfl ?_); refine Kd.R_make (Kd.int .i64) _ 3 rfl (N := 62) rfl 55 _ _ rfl (x0_3.length : Int) rfl rfl Tryd.underlying55 (.int .i64 0) 8 info3 rfl (by decide) (by omega) 0 (ok := fun _ => True) (okp := fun _ => True) rfl (fun _ hk => hk) trivial (of_decide_eq_true (by first | (with_reducible assumption) | assumption)) (Nat.le_trans (Nat.mul_le_mul_right _ (of_decide_eq_true (by first | (with_reducible assumption) | assumption) : (x0_3.length : Int).toNat ≤ 35184372088832)) (by omega)) (Below.refl _ _) (Nat.le_refl _) ?_; intro v220 w34 ho35 hb hg_ hnew_; clear hg_ hnew_; (first | rw [← Ny219.out] at ho35 | (simp only [Int.reduceToNat] at ho35; rw [← Ny219.out] at ho35)); have n0_ := Aside0.mk (Kd.V_elder' (by (with_reducible repeat (first | apply Kd.V_alloc | apply Kd.V_drewN | apply Kd.V_drew)); exact HO_0.out) (Kd.R_base ho35) hb); have n1_ := Aside0.mk (Kd.R_lower (Kd.R_newM (M := fun k_ => (w.heap.size ≤ k_)) ho35 (below_size (by repeat (first | (with_reducible first | exact HB.out | apply below_alloc | apply pw_below_drewN | apply below_drew1 | refine below_set ?_ GE205.out) | exact HB.out))) (fun k_ h_ => h_)) (below_size (by repeat (first | (with_reducible first | exact HB.out | apply below_alloc | apply pw_below_drewN | apply below_drew1 | refine below_set ?_ GE205.out) | exact HB.out)))); have n2_ := Aside0.mk (blk_below (g := gb205) (o := .cells #[.int .i64 0, .int .i64 0] 23 (0, 0)) (by (with_reducible repeat (first | refine blk_drewN ?_ _ | refine blk_drew ?_ | refine blk_alloc ?_ _)); exact BK205.out) hb); have n3_ := Aside0.mk (below_step (by repeat (first | (with_reducible first | exact HB.out | apply below_alloc | apply pw_below_drewN | apply below_drew1 | refine below_set ?_ GE205.out) | exact HB.out)) hb); clear HO_0; clear BK205; clear HB; have HO_0 := n0_; have HO221 := n1_; have BK205 := n2_; have HB := n3_; clear n0_ n1_ n2_ n3_; clear hb ho35; have p30 : 0 ≤ (0 : Int) := (by omega); have q30 : (0 : Int) < ((y219.length : Int) : Int) := of_decide_eq_true (by first | (with_reducible assumption) | assumption); have qi30 : (0 < y219.length) = True := eq_true (by omega); obtain ⟨go30, co30, eo30, gb30, gl30, cl30, HG30⟩ := Kd.R_form HO221.out (by omega); (first | cases eo30 | (injection eo30 with ea_ en_ ec_; (first | subst ea_ | (injection ea_ with ea_; subst ea_)); subst ec_; clear en_)); have GB30 := Aside0.mk gb30; have GG30 := Aside0.mk HG30; clear gb30 gl30 HG30; obtain ⟨hx30_0, hf30_0⟩ := Kd.R_celln 0 HO221.out (0 : Int) p30 q30; (try rw [show ((0 : Int)).toNat = 0 from rfl] at hx30_0); (try simp only [Nat.reduceMul, Nat.zero_mul, Nat.zero_add, Nat.reduceAdd] at hx30_0); (try rw [show ((0 : Int)).toNat = 0 from rfl] at hf30_0); (try simp only [Nat.reduceMul, Nat.zero_mul, Nat.zero_add, Nat.reduceAdd] at hf30_0); replace p30 := eq_true p30; replace q30 := eq_true q30; have n_ := Aside0.mk (Kd.R_mono (ok' := (fun k_ => (w.heap.size ≤ k_))) HO221.out (fun k_ hk => hk.1)); clear HO221; have HO221 := n_; clear n_; obtain ⟨hy36_, hz36_⟩ := Kd.R_celln 0 HO221.out (0 : Int) (by omega) (of_decide_eq_true (by first | (with_reducible assumption) | assumption)); (try simp only [Int.reduceToNat, Int.toNat_zero, Int.toNat_ofNat, Nat.reduceMul, Nat.zero_mul, Nat.zero_add] at hy36_ hz36_); (try rw [show ((0 : Int)).toNat = 0 from rfl] at hy36_); (try rw [show ((0 : Int)).toNat = 0 from rfl] at hz36_); have HP36 := Kd.R_putg HO221.out (0 : Int) x9_3) | ((with_reducible refine gate_store (t := 3) (p := 65) rfl ?_); refine store_event (t := 3) (p := 65) (v := ?vo_w37) (w1 := (w34.setCell ⟨go30, (0 : Int).toNat, none⟩ (.int .i64 x9_3))) ?hg ?ho ?hn ?hr ?_; (case ho => rfl); (case hg => rfl); (case hn => rfl); (case hr => first | (go_simp; done) | (go_simp; rfl)); intro w37 hw; have hg : w34.grownBy w37 (some go30) := (by rw [hw]; exact HP36.2); have hp_ : Kd.R (Kd.int .i64) 3 w37 w.heap.size (fun k_ => (w.heap.size ≤ k_)) (.slice (some ⟨go30, 0, none⟩) y219.length co30) y222 := (by rw [hw, Ny222.out]; exact HP36.1); clear HP36; have n0_ := Aside0.mk (Kd.V_afterv (v := (.slice (some ⟨go30, 0, none⟩) y219.length co30)) (v1 := (.slice (some ⟨go30, 0, none⟩) y219.length co30)) (ok := (fun k_ => (P0_ k_ ∨ w.heap.size ≤ k_) ∧ k_ ≠ gb205)) (by (with_reducible repeat (first | apply Kd.V_alloc | apply Kd.V_drewN | apply Kd.V_drew)); exact HO_0.out) hg (.inl rfl)); have n1_ := Aside0.mk (blk_grown (g := gb205) (o := .cells #[.int .i64 0, .int .i64 0] 23 (0, 0)) (by (with_reducible repeat (first | refine blk_drewN ?_ _ | refine blk_drew ?_ | refine blk_alloc ?_ _)); exact BK205.out) hg (Kd.R_ne HO221.out BK205.out (by decide))); have n2_ := Aside0.mk (hp_); have n3_ := Aside0.mk ((by rw [hw]; exact below_set (HB.out) GB30.out : Below w.heap.size w w37)); clear HO_0; clear BK205; clear HO221; clear HB; have HO_0 := n0_; have BK205 := n1_; have HO221 := n2_; have HB := n3_; clear n0_ n1_ n2_ n3_; clear hg hw hp_) | ((with_reducible refine gate_callee (f := 46) rfl ?_); refine goesL_ (some 68) rfl rfl Tryd.func46 (by kernel_rfl) rfl #[.slice Ao33 x0_3.length co33, .slice (some ⟨go30, 0, none⟩) y222.length co30] rfl (by (try simp only [List.map_toArray, List.map_cons, List.map_nil]); first | done | (rw [show y222.length = y219.length from (Kd.R_reads' HO221.out).1.symm] <;> rfl) | rfl | (simp only [List.length_drop, List.length_take]; rfl)) ?_; (with_reducible refine (soffitref01_plus.calls kj3 _ _ x0_3 _ _ y222 t223 _ ?side1 ?side2 ?side3 ?side4 A31.out).mono ?_); (case side1 => repeat (first | exact (Kd.V_reads' HO_0.out).2.2 | (with_reducible refine Kd.C_alloc ?_ _) | (with_reducible refine Kd.C_drewN ?_ _) | (with_reducible refine Kd.C_drew ?_))); (case side2 => exact (Kd.V_reads' HO_0.out).2.1); (case side3 => repeat (first | exact (Kd.R_reads' HO221.out).2.2 | (with_reducible refine Kd.C_alloc ?_ _) | (with_reducible refine Kd.C_drewN ?_ _) | (with_reducible refine Kd.C_drew ?_))); (case side4 => rw [show y222.length = y219.length from (Kd.R_reads' HO221.out).1.symm]; exact (Kd.R_reads' HO221.out).2.1); rintro e w38 ⟨v224, rfl, ho0, hb⟩; refine ⟨_, rfl, ?_⟩; have n0_ := Aside0.mk (Kd.V_elder' (by (with_reducible repeat (first | apply Kd.V_alloc | apply Kd.V_drewN | apply Kd.V_drew)); exact HO_0.out) (Kd.R_base ho0) hb); have n1_ := Aside0.mk (Kd.R_elder' (by (with_reducible repeat (first | apply Kd.R_alloc | apply Kd.R_drewN | apply Kd.R_drew)); exact HO221.out) (Kd.R_base ho0) hb); have n2_ := Aside0.mk (Kd.R_lower (Kd.R_new' (Kd.R_newM (M := fun k_ => (w.heap.size ≤ k_)) ho0 (below_size (by repeat (first | (with_reducible first | exact HB.out | apply below_alloc | apply pw_below_drewN | apply below_drew1 | refine below_set ?_ GE205.out) | exact HB.out))) (fun k_ h_ => h_)) (Kd.R_lt (by (with_reducible repeat (first | apply Kd.R_alloc | apply Kd.R_drewN | apply Kd.R_drew)); exact HO221.out))) (below_size (by repeat (first | (with_reducible first | exact HB.out | apply below_alloc | apply pw_below_drewN | apply below_drew1 | refine below_set ?_ GE205.out) | exact HB.out)))); have n3_ := Aside0.mk (blk_below (g := gb205) (o := .cells #[.int .i64 0, .int .i64 0] 23 (0, 0)) (by (with_reducible repeat (first | refine blk_drewN ?_ _ | refine blk_drew ?_ | refine blk_alloc ?_ _)); exact BK205.out) hb); have n4_ := Aside0.mk (below_step (by repeat (first | (with_reducible first | exact HB.out | apply below_alloc | apply pw_below_drewN | apply below_drew1 | refine below_set ?_ GE205.out) | exact HB.out)) hb); clear HO_0; clear HO221; clear BK205; clear HB; have HO_0 := n0_; have HO221 := n1_; have HO225 := n2_; have BK205 := n3_; have HB := n4_; clear n0_ n1_ n2_ n3_ n4_; (try clear hb); (try clear hb2); (try clear hk); (try clear hi); (try clear ho0)))
            (try simp only [Act.put, List.setIfInBounds_toArray, List.set_cons_zero, List.set_cons_succ])
            go_cut [0, 1] (fun v0 v1 wc => ∃ (kq : Nat) (x0_31 : List Int) (x1_31 : Int), v1 = .int .i64 x1_31 ∧ Aside0 (soffitref01_dec.j4 kq x0_31 x1_31 a2 = some (r1, r2, r3)) ∧ Aside0 (kq ≤ kj3) ∧ Aside0 (Kd.Q (Kd.int .i64) 3 wc w.heap.size (fun k_ => (w.heap.size ≤ k_)) v0 x0_31) ∧ Aside0 (wc.heap[gb205]? = some (.cells #[.int .i64 0, .int .i64 0] 23 (0, 0))) ∧ Aside0 (Below w.heap.size w wc))
            case first =>
              have H := HC32.out
              clear HC32
              have H' := Aside0.mk H
              clear H
              go_wp2
              (try simp only [Act.put, List.setIfInBounds_toArray, List.set_cons_succ, List.set_cons_zero])
              go_loopg [0, 1] kj3 (fun kq v0 v1 w' => ∃ (x0_2 : List Int) (x1_2 : Int), v1 = .int .i64 x1_2 ∧ Aside0 (soffitref01_dec.l1 kq x0_2 x1_2 a2 = some (r1, r2, r3)) ∧ Aside0 (kq ≤ kj3) ∧ Aside0 (Kd.Q (Kd.int .i64) 3 w' w.heap.size (fun k_ => (w.heap.size ≤ k_)) v0 x0_2) ∧ Aside0 (w'.heap[gb205]? = some (.cells #[.int .i64 0, .int .i64 0] 23 (0, 0))) ∧ Aside0 (Below w.heap.size w w'))
              case atStart => exact ⟨(t223), (x1_3), (by first | rfl | (simp; done) | (simp [*]; done)), H', ⟨Nat.le_refl _⟩, ⟨Kd.Q_of_R (by (with_reducible repeat (first | apply Kd.R_alloc | apply Kd.R_drewN | apply Kd.R_drew)); exact Kd.R_mono HO225.out (fun _ hk => hk.1.1))⟩, ⟨by (with_reducible repeat (first | refine blk_drewN ?_ _ | refine blk_drew ?_ | refine blk_alloc ?_ _)); exact BK205.out⟩, ⟨by repeat (first | (with_reducible first | exact HB.out | apply below_alloc | apply pw_below_drewN | apply below_drew1 | refine below_set ?_ GE205.out) | exact HB.out)⟩⟩
              case round =>
                clear H'
                try clear c1
                try clear c2
                try clear p2
                try clear q2
                try clear hx2
                try clear c3
                try clear p3
                try clear q3
                try clear hx3
                try clear qi3
                try clear hf3
                try clear c4
                try clear c6
                try clear c6b0
                try clear p6
                try clear c7
                try clear c7b0
                try clear c8
                try clear c8b0
                try clear c9
                try clear c9b0
                try clear c11
                try clear c11b0
                try clear c12
                try clear c12b0
                try clear c14
                try clear c14b0
                try clear c15
                try clear c15b0
                try clear c17
                try clear c17b0
                try clear c18
                try clear c18b0
                try clear c18b1
                try clear c19
                try clear c19b0
                try clear c20
                try clear p20
                try clear q20
                try clear hx20
                try clear c21
                try clear c21b0
                try clear c21b1
                try clear c22
                try clear c22b0
                try clear c22b1
                try clear c23
                try clear q23
                try clear c24
                try clear c24b0
                try clear c24b1
                try clear c25
                try clear c25b0
                try clear c25b1
                try clear c26
                try clear q26
                try clear c27
                try clear c27b0
                try clear c27b1
                try clear c28
                try clear c28b0
                try clear c28b1
                try clear c29
                try clear c29b0
                try clear c29b1
                try clear p30
                try clear q30
                try clear hx30
                try clear qi30
                try clear hf30
                try clear c34
                try clear hx206_0
                try clear hx207_0
                try clear hx208_0
                try clear hx30_0
                try clear p2
                try clear p20
                try clear p206
                try clear p207
                try clear p208
                try clear p30
                try clear p6
                try clear q023
                try clear q026
                try clear q2
                try clear q20
                try clear q206
                try clear q207
                try clear q208
                try clear q23
                try clear q26
                try clear q30
                obtain ⟨x0_2, x1_2, rfl, HA, HK2, HO_0, BK205, HB⟩ := hrel
                cases gk with
                | zero => exact absurd HA.out (by simp [soffitref01_dec.l1])
                | succ k2 =>
                  have H := HA.out
                  clear HA
                  simp only [soffitref01_dec.l1] at H
                  by_cases c39 : x1_2 > 0
                  · rw [if_pos c39] at H
                    have c39b0 : decide (0 < x1_2) = true := decide_eq_true c39
                    clear c39
                    (first | rw [c39b0] | (simp only [i64_w, i32_w]; rw [c39b0]) | skip)
                    by_cases c40 : 0 < (x0_2.length : Int)
                    · rw [if_pos c40] at H
                      have c40b0 : decide (0 < (x0_2.length : Int)) = true := decide_eq_true c40
                      have c40b1 : decide (0 < x0_2.length) = true := decide_eq_true (by omega)
                      clear c40
                      by_cases c41 : (rd x0_2 0) = 0
                      · rw [if_pos c41] at H
                        have c41b0 : ((rd x0_2 0) == 0) = true := beq_iff_eq.mpr c41
                        have c41b1 : ((rd x0_2 0) != 0) = false := bne_eq_false_iff_eq.mpr c41
                        clear c41
                        by_cases c42 : 1 ≤ (x0_2.length : Int)
                        · rw [if_pos c42] at H
                          have c42b0 := eq_true c42
                          have c42b1 : decide (1 ≤ (x0_2.length : Int)) = true := decide_eq_true c42
                          clear c42
                          obtain ⟨y227, hy227⟩ : ∃ y_ : List Int, y_ = (x0_2.drop (1 : Int).toNat) := ⟨_, rfl⟩
                          replace H : (soffitref01_dec.l1 k2 y227 (wrap64 (x1_2 - 1)) a2) = some (r1, r2, r3) := by first | (rw [hy227]; with_reducible exact H) | (have H2_ := (Option.bind_some _ _).symm.trans H; rw [hy227]; with_reducible exact H2_) | (have H2_ := (Option.bind_some _ _).symm.trans H; with_reducible exact H2_) | with_reducible exact H | (rw [hy227]; exact H) | exact H
                          have Ny227 := Aside0.mk hy227
                          clear hy227
                          have H' := Aside0.mk H
                          clear H
                          obtain ⟨Ao43, co43, eo43, _⟩ := Kd.Q_slice HO_0.out
                          subst eo43
                          have p226 : 0 ≤ (0 : Int) := (by omega)
                          have q226 : 0 < (x0_2.length : Int) := of_decide_eq_true (by first | (with_reducible assumption) | assumption)
                          obtain ⟨ad226, e226, hx226_0⟩ := Kd.at_int (Kd.Q_reads' HO_0.out).2.2 0 p226 q226
                          cases e226
                          have qi226 : (0 < x0_2.length) = True := eq_true (by omega)
                          (try rw [show ((0 : Int)).toNat = 0 from rfl] at hx226_0)
                          (try rw [Addr.add_zero'] at hx226_0)
                          replace p226 := eq_true p226
                          replace q226 := eq_true q226
                          have q44 : (1 : Int) ≤ ((x0_2.length : Int) : Int) := of_decide_eq_true (by first | (with_reducible assumption) | assumption)
                          obtain ⟨i044, hi044, _, hsz44, _⟩ := info_parts info3
                          have hcut44 := cut_from (P := Tryd.prog) 55 3 .i64 Tryd.underlying55 hi044 1 hsz44 (some ad226) x0_2.length co43 1 (by omega) q44
                          have hr44 := Kd.Q_drop (k := (1 : Int).toNat) HO_0.out (by omega)
                          obtain ⟨A44, hA44⟩ : ∃ A1, A1 = (if co43 = (1 : Int).toNat then (some ad226) else ((some ad226) : Option Addr).map (·.add ((1 : Int).toNat * 1))) := ⟨_, rfl⟩
                          obtain ⟨c44, hc44⟩ : ∃ c1, c1 = co43 - (1 : Int).toNat := ⟨_, rfl⟩
                          have hy44 : y227.length = x0_2.length - (1 : Int).toNat := (by rw [Ny227.out, List.length_drop])
                          rw [← Ny227.out] at hr44
                          rw [← hy44, ← hA44, ← hc44] at hcut44
                          replace hr44 : Kd.Q (Kd.int .i64) 3 wr w.heap.size (fun k_ => (w.heap.size ≤ k_)) (.slice A44 y227.length c44) y227 := (by rw [hA44, hc44, hy44]; exact hr44)
                          have HE44 : Aside0 ((Value.slice A44 y227.length c44).ownBlock = (.slice (some ad226) x0_2.length co43 : Value).ownBlock) := ⟨by rw [hA44]; split <;> (cases ((some ad226) : Option Addr) <;> rfl)⟩
                          clear hy44 hi044 hsz44 HO_0 hA44 hc44
                          have HO229 := Aside0.mk hr44
                          clear hr44
                          replace q44 := eq_true q44
                          go_wp2
                          go_roundg k2
                          case measure => have := HJ3.out; have := HK2.out; omega
                          case rel => exact ⟨(y227), (wrap64 (x1_2 - 1)), (by first | rfl | (simp; done) | (simp [*]; done)), H', ⟨by have := HJ3.out; have := HK2.out; omega⟩, ⟨by (with_reducible repeat (first | apply Kd.Q_alloc | apply Kd.Q_drewN | apply Kd.Q_drew)); exact HO229.out⟩, ⟨by (with_reducible repeat (first | refine blk_drewN ?_ _ | refine blk_drew ?_ | refine blk_alloc ?_ _)); exact BK205.out⟩, ⟨by repeat (first | (with_reducible first | exact HB.out | apply below_alloc | apply pw_below_drewN | apply below_drew1 | refine below_set ?_ GE205.out) | exact HB.out)⟩⟩
                        · rw [if_neg c42] at H
                          exact absurd H (by simp)
                      · rw [if_neg c41] at H
                        have c41b0 : ((rd x0_2 0) == 0) = false := beq_eq_false_iff_ne.mpr c41
                        have c41b1 : ((rd x0_2 0) != 0) = true := bne_iff_ne.mpr c41
                        have H' := Aside0.mk H
                        clear H
                        obtain ⟨Ao45, co45, eo45, _⟩ := Kd.Q_slice HO_0.out
                        subst eo45
                        have p226 : 0 ≤ (0 : Int) := (by omega)
                        have q226 : 0 < (x0_2.length : Int) := of_decide_eq_true (by first | (with_reducible assumption) | assumption)
                        obtain ⟨ad226, e226, hx226_0⟩ := Kd.at_int (Kd.Q_reads' HO_0.out).2.2 0 p226 q226
                        cases e226
                        have qi226 : (0 < x0_2.length) = True := eq_true (by omega)
                        (try rw [show ((0 : Int)).toNat = 0 from rfl] at hx226_0)
                        (try rw [Addr.add_zero'] at hx226_0)
                        replace p226 := eq_true p226
                        replace q226 := eq_true q226
                        go_wp2
                        go_meet
                        case rel => exact ⟨_, (x0_2), (x1_2), (by first | rfl | (simp; done) | (simp [*]; done)), H', ⟨by have := HJ3.out; have := HK2.out; first | omega | exact Nat.le_refl _⟩, ⟨by (with_reducible repeat (first | apply Kd.Q_alloc | apply Kd.Q_drewN | apply Kd.Q_drew)); exact HO_0.out⟩, ⟨by (with_reducible repeat (first | refine blk_drewN ?_ _ | refine blk_drew ?_ | refine blk_alloc ?_ _)); exact BK205.out⟩, ⟨by repeat (first | (with_reducible first | exact HB.out | apply below_alloc | apply pw_below_drewN | apply below_drew1 | refine below_set ?_ GE205.out) | exact HB.out)⟩⟩
                    · rw [if_neg c40] at H
                      exact absurd H (by simp)
                  · rw [if_neg c39] at H
                    have c39b0 : decide (0 < x1_2) = false := decide_eq_false c39
                    clear c39
                    (first | rw [c39b0] | (simp only [i64_w, i32_w]; rw [c39b0]) | skip)
                    have H' := Aside0.mk H
                    clear H
                    go_wp2
                    go_meet
                    case rel => exact ⟨_, (x0_2), (x1_2), (by first | rfl | (simp; done) | (simp [*]; done)), H', ⟨by have := HJ3.out; have := HK2.out; first | omega | exact Nat.le_refl _⟩, ⟨by (with_reducible repeat (first | apply Kd.Q_alloc | apply Kd.Q_drewN | apply Kd.Q_drew)); exact HO_0.out⟩, ⟨by (with_reducible repeat (first | refine blk_drewN ?_ _ | refine blk_drew ?_ | refine blk_alloc ?_ _)); exact BK205.out⟩, ⟨by repeat (first | (with_reducible first | exact HB.out | apply below_alloc | apply pw_below_drewN | apply below_drew1 | refine below_set ?_ GE205.out) | exact HB.out)⟩⟩
            case rest =>
              clear HC32
              try clear c1
              try clear c2
              try clear p2
              try clear q2
              try clear hx2
              try clear qi2
              try clear c3
              try clear p3
              try clear q3
              try clear hx3
              try clear qi3
              try clear hf3
              try clear c4
              try clear q4
              try clear c6
              try clear c6b0
              try clear p6
              try clear c7
              try clear c7b0
              try clear c8
              try clear c8b0
              try clear c9
              try clear c9b0
              try clear c11
              try clear c11b0
              try clear c12
              try clear c12b0
              try clear c14
              try clear c14b0
              try clear c15
              try clear c15b0
              try clear c17
              try clear c17b0
              try clear c18
              try clear c18b0
              try clear c18b1
              try clear c19
              try clear c19b0
              try clear c20
              try clear p20
              try clear q20
              try clear hx20
              try clear c21
              try clear c21b0
              try clear c21b1
              try clear c22
              try clear c22b0
              try clear c22b1
              try clear p22
              try clear q22
              try clear hx22
              try clear qi22
              try clear c23
              try clear q23
              try clear c24
              try clear c24b0
              try clear c24b1
              try clear c25
              try clear c25b0
              try clear c25b1
              try clear c26
              try clear q26
              try clear c27
              try clear c27b0
              try clear c27b1
              try clear c28
              try clear c28b0
              try clear c28b1
              try clear c29
              try clear c29b0
              try clear c29b1
              try clear p30
              try clear q30
              try clear hx30
              try clear qi30
              try clear hf30
              try clear c34
              try clear c39
              try clear c39b0
              try clear c40
              try clear c40b0
              try clear c40b1
              try clear c41
              try clear c41b0
              try clear c41b1
              try clear c42
              try clear c42b0
              try clear c42b1
              try clear c44
              try clear q44
              try clear hx206_0
              try clear hx207_0
              try clear hx208_0
              try clear hx226_0
              try clear hx30_0
              try clear p2
              try clear p20
              try clear p206
              try clear p207
              try clear p208
              try clear p226
              try clear p3
              try clear p30
              try clear p6
              try clear q023
              try clear q026
              try clear q2
              try clear q20
              try clear q206
              try clear q207
              try clear q208
              try clear q226
              try clear q23
              try clear q26
              try clear q3
              try clear q30
              try clear q44
              obtain ⟨kq, x0_31, x1_31, rfl, HA, HJ31, HO_0, BK205, HB⟩ := hcut
              cases kq with
              | zero => exact absurd HA.out (by simp [soffitref01_dec.j4])
              | succ kj31 =>
                have H := HA.out
                clear HA
                simp only [soffitref01_dec.j4] at H
                have H' := Aside0.mk H
                clear H
                obtain ⟨Ao46, co46, eo46, _⟩ := Kd.Q_slice HO_0.out
                subst eo46
                go_wp2
                (try simp only [Act.put, List.setIfInBounds_toArray, List.set_cons_succ, List.set_cons_zero])
                go_loopg [15, 16] kj31 (fun kq v15 v16 w' => ∃ (x15_3 : Int) (x16_3 : Int) (x206000_3 : Int) (x206001_3 : Int), v15 = .int .i64 x15_3 ∧ v16 = .int .i64 x16_3 ∧ Aside0 (soffitref01_dec.l2 kq x0_31 x1_31 a2 x15_3 x16_3 = some (r1, r2, r3)) ∧ Aside0 (kq ≤ kj31) ∧ Aside0 (Kd.Q (Kd.int .i64) 3 w' w.heap.size (fun k_ => (w.heap.size ≤ k_)) (.slice Ao46 x0_31.length co46) x0_31) ∧ Aside0 (w'.heap[gb205]? = some (.cells #[.int .i64 x206000_3, .int .i64 x206001_3] 23 (0, 0))) ∧ Aside0 (Below w.heap.size w w'))
                case atStart => exact ⟨(0), (wrap64 ((x0_31.length : Int) - 1)), (0), (0), (by first | rfl | (simp; done) | (simp [*]; done)), (by first | rfl | (simp; done) | (simp [*]; done)), H', ⟨Nat.le_refl _⟩, ⟨by (with_reducible repeat (first | apply Kd.Q_alloc | apply Kd.Q_drewN | apply Kd.Q_drew)); exact HO_0.out⟩, ⟨by (with_reducible repeat (first | refine blk_drewN ?_ _ | refine blk_drew ?_ | refine blk_alloc ?_ _)); exact BK205.out⟩, ⟨by repeat (first | (with_reducible first | exact HB.out | apply below_alloc | apply pw_below_drewN | apply below_drew1 | refine below_set ?_ GE205.out) | exact HB.out)⟩⟩
                case round =>
                  clear H'
                  try clear c1
                  try clear c2
                  try clear p2
                  try clear q2
                  try clear hx2
                  try clear qi2
                  try clear c3
                  try clear p3
                  try clear q3
                  try clear hx3
                  try clear qi3
                  try clear hf3
                  try clear c4
                  try clear q4
                  try clear c6
                  try clear c6b0
                  try clear p6
                  try clear c7
                  try clear c7b0
                  try clear c8
                  try clear c8b0
                  try clear c9
                  try clear c9b0
                  try clear c11
                  try clear c11b0
                  try clear c12
                  try clear c12b0
                  try clear c14
                  try clear c14b0
                  try clear c15
                  try clear c15b0
                  try clear c17
                  try clear c17b0
                  try clear c18
                  try clear c18b0
                  try clear c18b1
                  try clear c19
                  try clear c19b0
                  try clear c20
                  try clear p20
                  try clear q20
                  try clear hx20
                  try clear c21
                  try clear c21b0
                  try clear c21b1
                  try clear c22
                  try clear c22b0
                  try clear c22b1
                  try clear p22
                  try clear q22
                  try clear hx22
                  try clear qi22
                  try clear c23
                  try clear q23
                  try clear c24
                  try clear c24b0
                  try clear c24b1
                  try clear c25
                  try clear c25b0
                  try clear c25b1
                  try clear c26
                  try clear q26
                  try clear c27
                  try clear c27b0
                  try clear c27b1
                  try clear c28
                  try clear c28b0
                  try clear c28b1
                  try clear c29
                  try clear c29b0
                  try clear c29b1
                  try clear p30
                  try clear q30
                  try clear hx30
                  try clear qi30
                  try clear hf30
                  try clear c34
                  try clear c39
                  try clear c39b0
                  try clear c40
                  try clear c40b0
                  try clear c40b1
                  try clear c41
                  try clear c41b0
                  try clear c41b1
                  try clear c42
                  try clear c42b0
                  try clear c42b1
                  try clear c44
                  try clear q44
                  try clear c46
                  try clear hx206_0
                  try clear hx207_0
                  try clear hx208_0
                  try clear hx226_0
                  try clear hx30_0
                  try clear p2
                  try clear p20
                  try clear p206
                  try clear p207
                  try clear p208
                  try clear p22
                  try clear p226
                  try clear p3
                  try clear p30
                  try clear p6
                  try clear q023
                  try clear q026
                  try clear q2
                  try clear q20
                  try clear q206
                  try clear q207
                  try clear q208
                  try clear q22
                  try clear q226
                  try clear q23
                  try clear q26
                  try clear q3
                  try clear q30
                  try clear q4
                  try clear q44
                  obtain ⟨x15_3, x16_3, x206000_3, x206001_3, rfl, rfl, HA, HK3, HO_0, BK205, HB⟩ := hrel
                  cases gk with
                  | zero => exact absurd HA.out (by simp [soffitref01_dec.l2])
                  | succ k3 =>
                    have H := HA.out
                    clear HA
                    simp only [soffitref01_dec.l2] at H
                    by_cases c47 : x16_3 ≥ 0
                    · rw [if_pos c47] at H
                      have c47b0 : decide (0 ≤ x16_3) = true := decide_eq_true c47
                      clear c47
                      by_cases c48 : x15_3 > 999999999999
                      · rw [if_pos c48] at H
                        have c48b0 : decide (999999999999 < x15_3) = true := decide_eq_true c48
                        clear c48
                        simp only [Option.some.injEq, Prod.mk.injEq] at H
                        obtain ⟨rfl, rfl, rfl⟩ := H
                        have hcz49_0 : wr.cell? ⟨gb205, 0, none⟩ = some (.int .i64 x206000_3) := (blk_cell BK205.out 0).trans rfl
                        have hcz49_1 : wr.cell? ⟨gb205, 1, none⟩ = some (.int .i64 x206001_3) := (blk_cell BK205.out 1).trans rfl
                        have hfz49_0 := blk_frozen BK205.out 0
                        have hfz49_1 := blk_frozen BK205.out 1
                        go_wp2
                        refine bodyPost_ret (results_ct rfl _ _ gb205 23 #[.int .i64 0, .int .i64 0] (0, 0) _ rfl (by (with_reducible repeat (first | refine blk_drewN ?_ _ | refine blk_drew ?_ | refine blk_alloc ?_ _)); refine blk_put (cs := #[.int .i64 0, .int .i64 x206001_3]) ?_ 1 _ rfl; (with_reducible repeat (first | refine blk_drewN ?_ _ | refine blk_drew ?_ | refine blk_alloc ?_ _)); refine blk_put (cs := #[.int .i64 x206000_3, .int .i64 x206001_3]) ?_ 0 _ rfl; (with_reducible repeat (first | refine blk_drewN ?_ _ | refine blk_drew ?_ | refine blk_alloc ?_ _)); exact BK205.out) Tryd.underlying23 rfl (by kernel_rfl)) rfl ?_
                        exact ⟨by first | rfl | (simp [errW_none, errW_some] <;> rfl) | (simp [*, errW_none, errW_some] <;> rfl), by repeat (first | (with_reducible first | exact HB.out | apply below_alloc | apply pw_below_drewN | apply below_drew1 | refine below_set ?_ GE205.out) | exact HB.out)⟩
                      · rw [if_neg c48] at H
                        have c48b0 : decide (999999999999 < x15_3) = false := decide_eq_false c48
                        clear c48
                        by_cases c50 : 0 ≤ x16_3
                        · rw [if_pos c50] at H
                          have c50b0 : decide (0 ≤ x16_3) = true := decide_eq_true c50
                          clear c50
                          by_cases c51 : x16_3 < (x0_31.length : Int)
                          · rw [if_pos c51] at H
                            have c51b0 : decide (x16_3 < (x0_31.length : Int)) = true := decide_eq_true c51
                            clear c51
                            have H' := Aside0.mk H
                            clear H
                            have p230 : 0 ≤ (x16_3 : Int) := of_decide_eq_true (by first | (with_reducible assumption) | assumption)
                            have q230 : x16_3 < (x0_31.length : Int) := of_decide_eq_true (by first | (with_reducible assumption) | assumption)
                            obtain ⟨ad230, e230, hx230_0⟩ := Kd.at_int (Kd.Q_reads' HO_0.out).2.2 x16_3 p230 q230
                            cases e230
                            replace p230 := eq_true p230
                            replace q230 := eq_true q230
                            go_wp2
                            go_roundg k3
                            case measure => have := HJ3.out; have := HJ31.out; have := HK3.out; omega
                            case rel => exact ⟨(wrap64 ((wrap64 (x15_3 * 10)) + (rd x0_31 x16_3))), (wrap64 (x16_3 - 1)), (x206000_3), (x206001_3), (by first | rfl | (simp; done) | (simp [*]; done)), (by first | rfl | (simp; done) | (simp [*]; done)), H', ⟨by have := HJ3.out; have := HJ31.out; have := HK3.out; omega⟩, ⟨by (with_reducible repeat (first | apply Kd.Q_alloc | apply Kd.Q_drewN | apply Kd.Q_drew)); exact HO_0.out⟩, ⟨by (with_reducible repeat (first | refine blk_drewN ?_ _ | refine blk_drew ?_ | refine blk_alloc ?_ _)); exact BK205.out⟩, ⟨by repeat (first | (with_reducible first | exact HB.out | apply below_alloc | apply pw_below_drewN | apply below_drew1 | refine below_set ?_ GE205.out) | exact HB.out)⟩⟩
                          · rw [if_neg c51] at H
                            exact absurd H (by simp)
                        · rw [if_neg c50] at H
                          exact absurd H (by simp)
                    · rw [if_neg c47] at H
                      have c47b0 : decide (0 ≤ x16_3) = false := decide_eq_false c47
                      clear c47
                      by_cases c52 : x15_3 > 999999999999
                      · rw [if_pos c52] at H
                        have c52b0 : decide (999999999999 < x15_3) = true := decide_eq_true c52
                        clear c52
                        simp only [Option.some.injEq, Prod.mk.injEq] at H
                        obtain ⟨rfl, rfl, rfl⟩ := H
                        have hcz53_0 : wr.cell? ⟨gb205, 0, none⟩ = some (.int .i64 x206000_3) := (blk_cell BK205.out 0).trans rfl
                        have hcz53_1 : wr.cell? ⟨gb205, 1, none⟩ = some (.int .i64 x206001_3) := (blk_cell BK205.out 1).trans rfl
                        have hfz53_0 := blk_frozen BK205.out 0
                        have hfz53_1 := blk_frozen BK205.out 1
                        go_wp2
                        refine bodyPost_ret (results_ct rfl _ _ gb205 23 #[.int .i64 0, .int .i64 0] (0, 0) _ rfl (by (with_reducible repeat (first | refine blk_drewN ?_ _ | refine blk_drew ?_ | refine blk_alloc ?_ _)); refine blk_put (cs := #[.int .i64 0, .int .i64 x206001_3]) ?_ 1 _ rfl; (with_reducible repeat (first | refine blk_drewN ?_ _ | refine blk_drew ?_ | refine blk_alloc ?_ _)); refine blk_put (cs := #[.int .i64 x206000_3, .int .i64 x206001_3]) ?_ 0 _ rfl; (with_reducible repeat (first | refine blk_drewN ?_ _ | refine blk_drew ?_ | refine blk_alloc ?_ _)); exact BK205.out) Tryd.underlying23 rfl (by kernel_rfl)) rfl ?_
                        exact ⟨by first | rfl | (simp [errW_none, errW_some] <;> rfl) | (simp [*, errW_none, errW_some] <;> rfl), by repeat (first | (with_reducible first | exact HB.out | apply below_alloc | apply pw_below_drewN | apply below_drew1 | refine below_set ?_ GE205.out) | exact HB.out)⟩
                      · rw [if_neg c52] at H
                        have c52b0 : decide (999999999999 < x15_3) = false := decide_eq_false c52
                        clear c52
                        by_cases c54 : a2 = true
                        · subst c54
                          have H1 : (some (wrap64 (-x15_3), x1_31, 0)) = some (r1, r2, r3) := by rw [if_pos rfl] at H; exact H
                          clear H
                          have H := H1
                          clear H1
                          simp only [Option.some.injEq, Prod.mk.injEq] at H
                          obtain ⟨rfl, rfl, rfl⟩ := H
                          have hcz55_0 : wr.cell? ⟨gb205, 0, none⟩ = some (.int .i64 x206000_3) := (blk_cell BK205.out 0).trans rfl
                          have hcz55_1 : wr.cell? ⟨gb205, 1, none⟩ = some (.int .i64 x206001_3) := (blk_cell BK205.out 1).trans rfl
                          have hfz55_0 := blk_frozen BK205.out 0
                          have hfz55_1 := blk_frozen BK205.out 1
                          go_wp2
                          refine bodyPost_ret (results_ct rfl _ _ gb205 23 #[.int .i64 (wrap64 (-x15_3)), .int .i64 x1_31] (0, 0) _ rfl (by (with_reducible repeat (first | refine blk_drewN ?_ _ | refine blk_drew ?_ | refine blk_alloc ?_ _)); refine blk_put (cs := #[.int .i64 (wrap64 (-x15_3)), .int .i64 x206001_3]) ?_ 1 _ rfl; (with_reducible repeat (first | refine blk_drewN ?_ _ | refine blk_drew ?_ | refine blk_alloc ?_ _)); refine blk_put (cs := #[.int .i64 x206000_3, .int .i64 x206001_3]) ?_ 0 _ rfl; (with_reducible repeat (first | refine blk_drewN ?_ _ | refine blk_drew ?_ | refine blk_alloc ?_ _)); exact BK205.out) Tryd.underlying23 rfl (by kernel_rfl)) rfl ?_
                          exact ⟨by first | rfl | (simp [errW_none, errW_some] <;> rfl) | (simp [*, errW_none, errW_some] <;> rfl), by repeat (first | (with_reducible first | exact HB.out | apply below_alloc | apply pw_below_drewN | apply below_drew1 | refine below_set ?_ GE205.out) | exact HB.out)⟩
                        · replace c54 := Bool.eq_false_iff.mpr c54
                          subst c54
                          have H1 : (some (x15_3, x1_31, 0)) = some (r1, r2, r3) := by rw [if_neg (show ¬ (false = true) by decide)] at H; exact H
                          clear H
                          have H := H1
                          clear H1
                          simp only [Option.some.injEq, Prod.mk.injEq] at H
                          obtain ⟨rfl, rfl, rfl⟩ := H
                          have hcz56_0 : wr.cell? ⟨gb205, 0, none⟩ = some (.int .i64 x206000_3) := (blk_cell BK205.out 0).trans rfl
                          have hcz56_1 : wr.cell? ⟨gb205, 1, none⟩ = some (.int .i64 x206001_3) := (blk_cell BK205.out 1).trans rfl
                          have hfz56_0 := blk_frozen BK205.out 0
                          have hfz56_1 := blk_frozen BK205.out 1
                          go_wp2
                          refine bodyPost_ret (results_ct rfl _ _ gb205 23 #[.int .i64 x15_3, .int .i64 x1_31] (0, 0) _ rfl (by (with_reducible repeat (first | refine blk_drewN ?_ _ | refine blk_drew ?_ | refine blk_alloc ?_ _)); refine blk_put (cs := #[.int .i64 x15_3, .int .i64 x206001_3]) ?_ 1 _ rfl; (with_reducible repeat (first | refine blk_drewN ?_ _ | refine blk_drew ?_ | refine blk_alloc ?_ _)); refine blk_put (cs := #[.int .i64 x206000_3, .int .i64 x206001_3]) ?_ 0 _ rfl; (with_reducible repeat (first | refine blk_drewN ?_ _ | refine blk_drew ?_ | refine blk_alloc ?_ _)); exact BK205.out) Tryd.underlying23 rfl (by kernel_rfl)) rfl ?_
                          exact ⟨by first | rfl | (simp [errW_none, errW_some] <;> rfl) | (simp [*, errW_none, errW_some] <;> rfl), by repeat (first | (with_reducible first | exact HB.out | apply below_alloc | apply pw_below_drewN | apply below_drew1 | refine below_set ?_ GE205.out) | exact HB.out)⟩
          · rw [if_neg c29] at H
            exact absurd H (by simp)
        · rw [if_neg c28] at H
          exact absurd H (by simp)
      · rw [if_neg c27] at H
        exact absurd H (by simp)
end Go.Proofs.YtgkemhgihbfmmaaDoor.PA
end
section
namespace Go.Proofs.YtgkemhgihbfmmaaDoor.PA
open Go.RowKit Go.Proofs.YtgkemhgihbfmmaaDoorW.PrintWords Go.Proofs.YtgkemhgihbfmmaaDoorW.PrintLast Go.Proofs.YtgkemhgihbfmmaaDoorW.PrintMore
attribute [local go_sem] max2_int min2_int max_two min_two max_three min_three max_four min_four
set_option linter.unusedVariables false
set_option linter.unusedSimpArgs false
mutual
def soffitref01_Div.j0 : Nat → Bool → Int → Int → Int → Int → Option (Int × Int × Int)
  | 0, _, _, _, _, _ => none
  | k + 1, x19, x232000, x232001, x233000, x233001 => if x19 = true then (some (0, 0, 2)) else (if x233000 = 0 then (some (0, 0, 4)) else ((soffitref01_size.f x232000).bind fun t236 => ((soffitref01_digits.f k t236 12).bind fun t237 => ((soffitref01_size.f x233000).bind fun t240 => (if 60 ≤ 35184372088832 then (soffitref01_Div.l0 k t237 t240 (List.replicate 60 0) 0 31 x232000 x232001 x233000 x233001) else (none))))))
def soffitref01_Div.l0 : Nat → List Int → Int → List Int → Int → Int → Int → Int → Int → Int → Option (Int × Int × Int)
  | 0, _, _, _, _, _, _, _, _, _ => none
  | k + 1, x6, x7, x8, x9, x10, x232000, x232001, x233000, x233001 => if x10 ≥ 0 then (if x10 ≥ 20 then (if 0 ≤ (wrap64 (x10 - 20)) then (if (wrap64 (x10 - 20)) < (x6.length : Int) then (if x7 = 0 then (none) else (if 0 ≤ x10 then (if x10 < (x8.length : Int) then (soffitref01_Div.l0 k x6 x7 (x8.set (x10 : Int).toNat (wrap64 (Int.tdiv (wrap64 ((wrap64 (x9 * 10)) + (rd x6 (wrap64 (x10 - 20))))) x7))) (Int.tmod (wrap64 ((wrap64 (x9 * 10)) + (rd x6 (wrap64 (x10 - 20))))) x7) (wrap64 (x10 - 1)) x232000 x232001 x233000 x233001) else (none)) else (none))) else (none)) else (none)) else (if x7 = 0 then (none) else (if 0 ≤ x10 then (if x10 < (x8.length : Int) then (soffitref01_Div.l0 k x6 x7 (x8.set (x10 : Int).toNat (wrap64 (Int.tdiv (wrap64 ((wrap64 (x9 * 10)) + 0)) x7))) (Int.tmod (wrap64 ((wrap64 (x9 * 10)) + 0)) x7) (wrap64 (x10 - 1)) x232000 x232001 x233000 x233001) else (none)) else (none)))) else (if x9 > 0 then (if 0 < (x8.length : Int) then (if (rd x8 0) = 0 then ((soffitref01_dec.f k (x8.set (0 : Int).toNat 1) (wrap64 ((wrap64 (20 + x232001)) - x233001)) ((decide (x232000 < 0)) != (decide (x233000 < 0)))).bind fun bt249 => (some (bt249.1, bt249.2.1, bt249.2.2))) else ((soffitref01_dec.f k x8 (wrap64 ((wrap64 (20 + x232001)) - x233001)) ((decide (x232000 < 0)) != (decide (x233000 < 0)))).bind fun bt252 => (some (bt252.1, bt252.2.1, bt252.2.2)))) else (none)) else ((soffitref01_dec.f k x8 (wrap64 ((wrap64 (20 + x232001)) - x233001)) ((decide (x232000 < 0)) != (decide (x233000 < 0)))).bind fun bt255 => (some (bt255.1, bt255.2.1, bt255.2.2))))
end
def soffitref01_Div.f (k : Nat) (a0_0 : Int) (a0_1 : Int) (a1_0 : Int) (a1_1 : Int) : Option (Int × Int × Int) := (soffitref01_Sound.f k a0_0 a0_1).bind fun t234 => (if t234 = true then ((soffitref01_Sound.f k a1_0 a1_1).bind fun t235 => (soffitref01_Div.j0 k (!t235) a0_0 a0_1 a1_0 a1_1)) else (soffitref01_Div.j0 k true a0_0 a0_1 a1_0 a1_1))
theorem soffitref01_Div.mono_l : ∀ k, (∀ y0 y1 y2 y3 y4, LeO (soffitref01_Div.j0 k y0 y1 y2 y3 y4) (soffitref01_Div.j0 (k + 1) y0 y1 y2 y3 y4)) ∧ (∀ y0 y1 y2 y3 y4 y5 y6 y7 y8, LeO (soffitref01_Div.l0 k y0 y1 y2 y3 y4 y5 y6 y7 y8) (soffitref01_Div.l0 (k + 1) y0 y1 y2 y3 y4 y5 y6 y7 y8))
  | 0 => ⟨fun _ _ _ _ _ r h => by simp [soffitref01_Div.j0] at h, fun _ _ _ _ _ _ _ _ _ r h => by simp [soffitref01_Div.l0] at h⟩
  | k + 1 => by
    obtain ⟨ih0, ih1⟩ := soffitref01_Div.mono_l k
    refine ⟨?_, ?_⟩
    · intro y0 y1 y2 y3 y4
      unfold soffitref01_Div.j0
      repeat' first
      | (with_reducible exact ih0 _ _ _ _ _)
      | (with_reducible exact ih1 _ _ _ _ _ _ _ _ _)
      | (with_reducible exact soffitref01_Sound.mono _ _ _)
      | (with_reducible exact soffitref01_dec.mono _ _ _ _)
      | (with_reducible exact soffitref01_digits.mono _ _ _)
      | (with_reducible exact LeO.refl _)
      | (with_reducible exact LeO.none _)
      | (with_reducible refine LeO.ite ?_ ?_)
      | (with_reducible refine LeO.bind ?_ (fun _ => ?_))
      | exact ih0 _ _ _ _ _
      | exact ih1 _ _ _ _ _ _ _ _ _
      | exact soffitref01_Sound.mono _ _ _
      | exact soffitref01_dec.mono _ _ _ _
      | exact soffitref01_digits.mono _ _ _
      | exact LeO.none _
      | refine LeO.ite ?_ ?_
      | refine LeO.bind ?_ (fun _ => ?_)
    · intro y0 y1 y2 y3 y4 y5 y6 y7 y8
      unfold soffitref01_Div.l0
      repeat' first
      | (with_reducible exact ih0 _ _ _ _ _)
      | (with_reducible exact ih1 _ _ _ _ _ _ _ _ _)
      | (with_reducible exact soffitref01_Sound.mono _ _ _)
      | (with_reducible exact soffitref01_dec.mono _ _ _ _)
      | (with_reducible exact soffitref01_digits.mono _ _ _)
      | (with_reducible exact LeO.refl _)
      | (with_reducible exact LeO.none _)
      | (with_reducible refine LeO.ite ?_ ?_)
      | (with_reducible refine LeO.bind ?_ (fun _ => ?_))
      | exact ih0 _ _ _ _ _
      | exact ih1 _ _ _ _ _ _ _ _ _
      | exact soffitref01_Sound.mono _ _ _
      | exact soffitref01_dec.mono _ _ _ _
      | exact soffitref01_digits.mono _ _ _
      | exact LeO.none _
      | refine LeO.ite ?_ ?_
      | refine LeO.bind ?_ (fun _ => ?_)
theorem soffitref01_Div.mono : ∀ a0 a1 a2 a3 k, LeO (soffitref01_Div.f k a0 a1 a2 a3) (soffitref01_Div.f (k + 1) a0 a1 a2 a3) := by
  intro a0 a1 a2 a3 k
  obtain ⟨ih0, ih1⟩ := soffitref01_Div.mono_l k
  unfold soffitref01_Div.f
  repeat' first
      | (with_reducible exact ih0 _ _ _ _ _)
      | (with_reducible exact ih1 _ _ _ _ _ _ _ _ _)
      | (with_reducible exact soffitref01_Sound.mono _ _ _)
      | (with_reducible exact soffitref01_dec.mono _ _ _ _)
      | (with_reducible exact soffitref01_digits.mono _ _ _)
      | (with_reducible exact LeO.refl _)
      | (with_reducible exact LeO.none _)
      | (with_reducible refine LeO.ite ?_ ?_)
      | (with_reducible refine LeO.bind ?_ (fun _ => ?_))
      | exact ih0 _ _ _ _ _
      | exact ih1 _ _ _ _ _ _ _ _ _
      | exact soffitref01_Sound.mono _ _ _
      | exact soffitref01_dec.mono _ _ _ _
      | exact soffitref01_digits.mono _ _ _
      | exact LeO.none _
      | refine LeO.ite ?_ ?_
      | refine LeO.bind ?_ (fun _ => ?_)
set_option maxHeartbeats 8000000 in
set_option maxRecDepth 100000 in
theorem soffitref01_Div.calls (k : Nat) (a0_0 : Int) (a0_1 : Int) (a1_0 : Int) (a1_1 : Int) (r1 : Int) (r2 : Int) (r3 : Int) (w : World) (h : soffitref01_Div.f k a0_0 a0_1 a1_0 a1_1 = some (r1, r2, r3)) :
    Calls Tryd.prog 15 #[.agg #[.int .i64 a0_0, .int .i64 a0_1], .agg #[.int .i64 a1_0, .int .i64 a1_1]] w fun e w' => e = .returned (.tuple #[.agg #[.int .i64 r1, .int .i64 r2], .int .i64 r3]) ∧ Below w.heap.size w w' := by
  have hu23 := Tryd.underlying23
  have HB := Aside0.mk (Below.refl w.heap.size w)
  have H : ((soffitref01_Sound.f k a0_0 a0_1).bind fun t234 => (if t234 = true then ((soffitref01_Sound.f k a1_0 a1_1).bind fun t235 => (soffitref01_Div.j0 k (!t235) a0_0 a0_1 a1_0 a1_1)) else (soffitref01_Div.j0 k true a0_0 a0_1 a1_0 a1_1))) = some (r1, r2, r3) := h
  clear h
  have HC3 := Aside0.mk H
  clear H
  go_enter Tryd.func15, Tryd.ntmps15
  go_upto_region 1 with (first | ((with_reducible refine gate_dst (N := 2) rfl ?_); refine box_event ?hg (N := 2) ?hd (cs := #[.int .i64 a0_0, .int .i64 a0_1]) (t := 23) ?hr ?_; (case hd => rfl); (case hg => rfl); (case hr => first | (go_simp; done) | (go_simp; rfl)); intro gb231 hg w4 hbox hb; have n0_ := Aside0.mk (below_step (by repeat (first | (with_reducible first | exact HB.out | apply below_alloc | apply pw_below_drewN | apply below_drew1) | exact HB.out)) hb); have n1_ := Aside0.mk (hbox); have n2_ := Aside0.mk ((by rw [hg]; exact (below_size (by repeat (first | (with_reducible first | exact HB.out | apply below_alloc | apply pw_below_drewN | apply below_drew1) | exact HB.out))) : w.heap.size ≤ gb231)); have n3_ := Aside0.mk ((by rw [hg]; exact (below_size (by repeat (first | (with_reducible first | exact HB.out | apply below_alloc | apply pw_below_drewN | apply below_drew1) | exact HB.out))) : w.heap.size ≤ gb231)); clear HB; have HB := n0_; have BK231 := n1_; have GW231 := n2_; have GE231 := n3_; clear n0_ n1_ n2_ n3_; clear hb hbox hg) | ((with_reducible refine gate_dst (N := 3) rfl ?_); refine box_event ?hg (N := 3) ?hd (cs := #[.int .i64 a1_0, .int .i64 a1_1]) (t := 23) ?hr ?_; (case hd => rfl); (case hg => rfl); (case hr => first | (go_simp; done) | (go_simp; rfl)); intro gb232 hg w5 hbox hb; have n0_ := Aside0.mk (blk_below (g := gb231) (o := .cells #[.int .i64 a0_0, .int .i64 a0_1] 23 (0, 0)) (by (with_reducible repeat (first | refine blk_drewN ?_ _ | refine blk_drew ?_ | refine blk_alloc ?_ _)); exact BK231.out) hb); have n1_ := Aside0.mk (below_step (by repeat (first | (with_reducible first | exact HB.out | apply below_alloc | apply pw_below_drewN | apply below_drew1 | refine below_set ?_ GE231.out) | exact HB.out)) hb); have n2_ := Aside0.mk (hbox); have n3_ := Aside0.mk ((by rw [hg]; exact (below_size (by repeat (first | (with_reducible first | exact HB.out | apply below_alloc | apply pw_below_drewN | apply below_drew1 | refine below_set ?_ GE231.out) | exact HB.out))) : w.heap.size ≤ gb232)); have n4_ := Aside0.mk ((by rw [hg]; exact (below_size (by repeat (first | (with_reducible first | exact HB.out | apply below_alloc | apply pw_below_drewN | apply below_drew1 | refine below_set ?_ GE231.out) | exact HB.out))) : w.heap.size ≤ gb232)); have n5_ := Aside0.mk ((by rw [hg]; exact Nat.ne_of_lt (blk_lt (g := gb231) (o := .cells #[.int .i64 a0_0, .int .i64 a0_1] 23 (0, 0)) (by (with_reducible repeat (first | refine blk_drewN ?_ _ | refine blk_drew ?_ | refine blk_alloc ?_ _)); exact BK231.out)) : gb231 ≠ gb232)); have n6_ := Aside0.mk ((by rw [hg]; exact Nat.ne_of_gt (blk_lt (g := gb231) (o := .cells #[.int .i64 a0_0, .int .i64 a0_1] 23 (0, 0)) (by (with_reducible repeat (first | refine blk_drewN ?_ _ | refine blk_drew ?_ | refine blk_alloc ?_ _)); exact BK231.out)) : gb232 ≠ gb231)); clear BK231; clear HB; have BK231 := n0_; have HB := n1_; have BK232 := n2_; have GW232 := n3_; have GE232 := n4_; have NB231_232 := n5_; have NB232_231 := n6_; clear n0_ n1_ n2_ n3_ n4_ n5_ n6_; clear hb hbox hg) | ((with_reducible refine gate_dst (N := 4) rfl ?_); refine box_event ?hg (N := 4) ?hd (cs := #[.int .i64 0, .int .i64 0]) (t := 23) ?hr ?_; (case hd => rfl); (case hg => rfl); (case hr => first | (go_simp; done) | (go_simp; rfl)); intro gb233 hg w6 hbox hb; have n0_ := Aside0.mk (blk_below (g := gb231) (o := .cells #[.int .i64 a0_0, .int .i64 a0_1] 23 (0, 0)) (by (with_reducible repeat (first | refine blk_drewN ?_ _ | refine blk_drew ?_ | refine blk_alloc ?_ _)); exact BK231.out) hb); have n1_ := Aside0.mk (blk_below (g := gb232) (o := .cells #[.int .i64 a1_0, .int .i64 a1_1] 23 (0, 0)) (by (with_reducible repeat (first | refine blk_drewN ?_ _ | refine blk_drew ?_ | refine blk_alloc ?_ _)); exact BK232.out) hb); have n2_ := Aside0.mk (below_step (by repeat (first | (with_reducible first | exact HB.out | apply below_alloc | apply pw_below_drewN | apply below_drew1 | refine below_set ?_ GE231.out | refine below_set ?_ GE232.out) | exact HB.out)) hb); have n3_ := Aside0.mk (hbox); have n4_ := Aside0.mk ((by rw [hg]; exact (below_size (by repeat (first | (with_reducible first | exact HB.out | apply below_alloc | apply pw_below_drewN | apply below_drew1 | refine below_set ?_ GE231.out | refine below_set ?_ GE232.out) | exact HB.out))) : w.heap.size ≤ gb233)); have n5_ := Aside0.mk ((by rw [hg]; exact (below_size (by repeat (first | (with_reducible first | exact HB.out | apply below_alloc | apply pw_below_drewN | apply below_drew1 | refine below_set ?_ GE231.out | refine below_set ?_ GE232.out) | exact HB.out))) : w.heap.size ≤ gb233)); have n6_ := Aside0.mk ((by rw [hg]; exact Nat.ne_of_lt (blk_lt (g := gb231) (o := .cells #[.int .i64 a0_0, .int .i64 a0_1] 23 (0, 0)) (by (with_reducible repeat (first | refine blk_drewN ?_ _ | refine blk_drew ?_ | refine blk_alloc ?_ _)); exact BK231.out)) : gb231 ≠ gb233)); have n7_ := Aside0.mk ((by rw [hg]; exact Nat.ne_of_gt (blk_lt (g := gb231) (o := .cells #[.int .i64 a0_0, .int .i64 a0_1] 23 (0, 0)) (by (with_reducible repeat (first | refine blk_drewN ?_ _ | refine blk_drew ?_ | refine blk_alloc ?_ _)); exact BK231.out)) : gb233 ≠ gb231)); have n8_ := Aside0.mk ((by rw [hg]; exact Nat.ne_of_lt (blk_lt (g := gb232) (o := .cells #[.int .i64 a1_0, .int .i64 a1_1] 23 (0, 0)) (by (with_reducible repeat (first | refine blk_drewN ?_ _ | refine blk_drew ?_ | refine blk_alloc ?_ _)); exact BK232.out)) : gb232 ≠ gb233)); have n9_ := Aside0.mk ((by rw [hg]; exact Nat.ne_of_gt (blk_lt (g := gb232) (o := .cells #[.int .i64 a1_0, .int .i64 a1_1] 23 (0, 0)) (by (with_reducible repeat (first | refine blk_drewN ?_ _ | refine blk_drew ?_ | refine blk_alloc ?_ _)); exact BK232.out)) : gb233 ≠ gb232)); clear BK231; clear BK232; clear HB; have BK231 := n0_; have BK232 := n1_; have HB := n2_; have BK233 := n3_; have GW233 := n4_; have GE233 := n5_; have NB231_233 := n6_; have NB233_231 := n7_; have NB232_233 := n8_; have NB233_232 := n9_; clear n0_ n1_ n2_ n3_ n4_ n5_ n6_ n7_ n8_ n9_; clear hb hbox hg))
  (try simp only [Act.put, List.setIfInBounds_toArray, List.set_cons_zero, List.set_cons_succ])
  go_cut [19] (fun v19 wc => ∃ (kq : Nat) (x19_2 : Bool), v19 = .bool x19_2 ∧ Aside0 (soffitref01_Div.j0 kq x19_2 a0_0 a0_1 a1_0 a1_1 = some (r1, r2, r3)) ∧ Aside0 (kq ≤ k) ∧ Aside0 (wc.heap[gb231]? = some (.cells #[.int .i64 a0_0, .int .i64 a0_1] 23 (0, 0))) ∧ Aside0 (wc.heap[gb232]? = some (.cells #[.int .i64 a1_0, .int .i64 a1_1] 23 (0, 0))) ∧ Aside0 (wc.heap[gb233]? = some (.cells #[.int .i64 0, .int .i64 0] 23 (0, 0))) ∧ Aside0 (Below w.heap.size w wc))
  case first =>
    have H := HC3.out
    clear HC3
    replace H := Option.bind_eq_some_iff.mp H
    obtain ⟨t234, A70, H⟩ := H
    replace H : (if t234 = true then ((soffitref01_Sound.f k a1_0 a1_1).bind fun t235 => (soffitref01_Div.j0 k (!t235) a0_0 a0_1 a1_0 a1_1)) else (soffitref01_Div.j0 k true a0_0 a0_1 a1_0 a1_1)) = some (r1, r2, r3) := H
    have A7 := Aside0.mk A70
    clear A70
    by_cases c8 : t234 = true
    · subst c8
      have H1 : ((soffitref01_Sound.f k a1_0 a1_1).bind fun t235 => (soffitref01_Div.j0 k (!t235) a0_0 a0_1 a1_0 a1_1)) = some (r1, r2, r3) := by rw [if_pos rfl] at H; exact H
      clear H
      have H := H1
      clear H1
      replace H := Option.bind_eq_some_iff.mp H
      obtain ⟨t235, A90, H⟩ := H
      replace H : (soffitref01_Div.j0 k (!t235) a0_0 a0_1 a1_0 a1_1) = some (r1, r2, r3) := H
      have A9 := Aside0.mk A90
      clear A90
      have H' := Aside0.mk H
      clear H
      have hnb10 := NB231_232.out
      have hnc10 := NB232_231.out
      have hnb11 := NB231_233.out
      have hnc11 := NB233_231.out
      have hcz12_0 : w6.cell? ⟨gb231, 0, none⟩ = some (.int .i64 a0_0) := (blk_cell BK231.out 0).trans rfl
      have hcz12_1 : w6.cell? ⟨gb231, 1, none⟩ = some (.int .i64 a0_1) := (blk_cell BK231.out 1).trans rfl
      have hfz12_0 := blk_frozen BK231.out 0
      have hfz12_1 := blk_frozen BK231.out 1
      go_wp2_with (first | ((with_reducible refine gate_callee (f := 13) rfl ?_); refine goesL_ (some 13) rfl rfl Tryd.func13 (by kernel_rfl) rfl #[.agg #[.int .i64 a0_0, .int .i64 a0_1]] rfl (by (try simp only [List.map_toArray, List.map_cons, List.map_nil]); first | done | rfl | (simp only [List.length_drop, List.length_take]; rfl)) ?_; (with_reducible refine (soffitref01_Sound.calls k a0_0 a0_1 true _ A7.out).mono ?_); rintro e w13 ⟨rfl, hb⟩; refine ⟨_, rfl, ?_⟩; have n0_ := Aside0.mk (blk_below (g := gb231) (o := .cells #[.int .i64 a0_0, .int .i64 a0_1] 23 (0, 0)) (by (with_reducible repeat (first | refine blk_drewN ?_ _ | refine blk_drew ?_ | refine blk_alloc ?_ _)); exact BK231.out) hb); have n1_ := Aside0.mk (blk_below (g := gb232) (o := .cells #[.int .i64 a1_0, .int .i64 a1_1] 23 (0, 0)) (by (with_reducible repeat (first | refine blk_drewN ?_ _ | refine blk_drew ?_ | refine blk_alloc ?_ _)); exact BK232.out) hb); have n2_ := Aside0.mk (blk_below (g := gb233) (o := .cells #[.int .i64 0, .int .i64 0] 23 (0, 0)) (by (with_reducible repeat (first | refine blk_drewN ?_ _ | refine blk_drew ?_ | refine blk_alloc ?_ _)); exact BK233.out) hb); have n3_ := Aside0.mk (below_step (by repeat (first | (with_reducible first | exact HB.out | apply below_alloc | apply pw_below_drewN | apply below_drew1 | refine below_set ?_ GE231.out | refine below_set ?_ GE232.out | refine below_set ?_ GE233.out) | exact HB.out)) hb); clear BK231; clear BK232; clear BK233; clear HB; have BK231 := n0_; have BK232 := n1_; have BK233 := n2_; have HB := n3_; clear n0_ n1_ n2_ n3_; (try clear hb); (try clear hb2); (try clear hk); (try clear hi); have hnb14 := NB232_233.out; have hnc14 := NB233_232.out; have hcz15_0 : w13.cell? ⟨gb232, 0, none⟩ = some (.int .i64 a1_0) := (blk_cell BK232.out 0).trans rfl; have hcz15_1 : w13.cell? ⟨gb232, 1, none⟩ = some (.int .i64 a1_1) := (blk_cell BK232.out 1).trans rfl; have hfz15_0 := blk_frozen BK232.out 0; have hfz15_1 := blk_frozen BK232.out 1) | (go_at_call 13; (with_reducible refine (soffitref01_Sound.calls k a1_0 a1_1 t235 _ A9.out).mono ?_); rintro e w16 ⟨rfl, hb⟩; have n0_ := Aside0.mk (blk_below (g := gb231) (o := .cells #[.int .i64 a0_0, .int .i64 a0_1] 23 (0, 0)) (by (with_reducible repeat (first | refine blk_drewN ?_ _ | refine blk_drew ?_ | refine blk_alloc ?_ _)); exact BK231.out) hb); have n1_ := Aside0.mk (blk_below (g := gb232) (o := .cells #[.int .i64 a1_0, .int .i64 a1_1] 23 (0, 0)) (by (with_reducible repeat (first | refine blk_drewN ?_ _ | refine blk_drew ?_ | refine blk_alloc ?_ _)); exact BK232.out) hb); have n2_ := Aside0.mk (blk_below (g := gb233) (o := .cells #[.int .i64 0, .int .i64 0] 23 (0, 0)) (by (with_reducible repeat (first | refine blk_drewN ?_ _ | refine blk_drew ?_ | refine blk_alloc ?_ _)); exact BK233.out) hb); have n3_ := Aside0.mk (below_step (by repeat (first | (with_reducible first | exact HB.out | apply below_alloc | apply pw_below_drewN | apply below_drew1 | refine below_set ?_ GE231.out | refine below_set ?_ GE232.out | refine below_set ?_ GE233.out) | exact HB.out)) hb); clear BK231; clear BK232; clear BK233; clear HB; have BK231 := n0_; have BK232 := n1_; have BK233 := n2_; have HB := n3_; clear n0_ n1_ n2_ n3_; (try clear hb); (try clear hb2); (try clear hk); (try clear hi)))
      go_meet
      case rel => exact ⟨_, (!t235), (by first | rfl | (simp; done) | (simp [*]; done)), H', ⟨by first | omega | exact Nat.le_refl _⟩, ⟨by (with_reducible repeat (first | refine blk_drewN ?_ _ | refine blk_drew ?_ | refine blk_alloc ?_ _)); exact BK231.out⟩, ⟨by (with_reducible repeat (first | refine blk_drewN ?_ _ | refine blk_drew ?_ | refine blk_alloc ?_ _)); exact BK232.out⟩, ⟨by (with_reducible repeat (first | refine blk_drewN ?_ _ | refine blk_drew ?_ | refine blk_alloc ?_ _)); exact BK233.out⟩, ⟨by repeat (first | (with_reducible first | exact HB.out | apply below_alloc | apply pw_below_drewN | apply below_drew1 | refine below_set ?_ GE231.out | refine below_set ?_ GE232.out | refine below_set ?_ GE233.out) | exact HB.out)⟩⟩
    · replace c8 := Bool.eq_false_iff.mpr c8
      subst c8
      have H1 : (soffitref01_Div.j0 k true a0_0 a0_1 a1_0 a1_1) = some (r1, r2, r3) := by rw [if_neg (show ¬ (false = true) by decide)] at H; exact H
      clear H
      have H := H1
      clear H1
      have H' := Aside0.mk H
      clear H
      have hnb17 := NB231_232.out
      have hnc17 := NB232_231.out
      have hnb18 := NB231_233.out
      have hnc18 := NB233_231.out
      have hcz19_0 : w6.cell? ⟨gb231, 0, none⟩ = some (.int .i64 a0_0) := (blk_cell BK231.out 0).trans rfl
      have hcz19_1 : w6.cell? ⟨gb231, 1, none⟩ = some (.int .i64 a0_1) := (blk_cell BK231.out 1).trans rfl
      have hfz19_0 := blk_frozen BK231.out 0
      have hfz19_1 := blk_frozen BK231.out 1
      go_wp2_with (first | ((with_reducible refine gate_callee (f := 13) rfl ?_); refine goesL_ (some 13) rfl rfl Tryd.func13 (by kernel_rfl) rfl #[.agg #[.int .i64 a0_0, .int .i64 a0_1]] rfl (by (try simp only [List.map_toArray, List.map_cons, List.map_nil]); first | done | rfl | (simp only [List.length_drop, List.length_take]; rfl)) ?_; (with_reducible refine (soffitref01_Sound.calls k a0_0 a0_1 false _ A7.out).mono ?_); rintro e w20 ⟨rfl, hb⟩; refine ⟨_, rfl, ?_⟩; have n0_ := Aside0.mk (blk_below (g := gb231) (o := .cells #[.int .i64 a0_0, .int .i64 a0_1] 23 (0, 0)) (by (with_reducible repeat (first | refine blk_drewN ?_ _ | refine blk_drew ?_ | refine blk_alloc ?_ _)); exact BK231.out) hb); have n1_ := Aside0.mk (blk_below (g := gb232) (o := .cells #[.int .i64 a1_0, .int .i64 a1_1] 23 (0, 0)) (by (with_reducible repeat (first | refine blk_drewN ?_ _ | refine blk_drew ?_ | refine blk_alloc ?_ _)); exact BK232.out) hb); have n2_ := Aside0.mk (blk_below (g := gb233) (o := .cells #[.int .i64 0, .int .i64 0] 23 (0, 0)) (by (with_reducible repeat (first | refine blk_drewN ?_ _ | refine blk_drew ?_ | refine blk_alloc ?_ _)); exact BK233.out) hb); have n3_ := Aside0.mk (below_step (by repeat (first | (with_reducible first | exact HB.out | apply below_alloc | apply pw_below_drewN | apply below_drew1 | refine below_set ?_ GE231.out | refine below_set ?_ GE232.out | refine below_set ?_ GE233.out) | exact HB.out)) hb); clear BK231; clear BK232; clear BK233; clear HB; have BK231 := n0_; have BK232 := n1_; have BK233 := n2_; have HB := n3_; clear n0_ n1_ n2_ n3_; (try clear hb); (try clear hb2); (try clear hk); (try clear hi)))
      go_meet
      case rel => exact ⟨_, (true), (by first | rfl | (simp; done) | (simp [*]; done)), H', ⟨by first | omega | exact Nat.le_refl _⟩, ⟨by (with_reducible repeat (first | refine blk_drewN ?_ _ | refine blk_drew ?_ | refine blk_alloc ?_ _)); exact BK231.out⟩, ⟨by (with_reducible repeat (first | refine blk_drewN ?_ _ | refine blk_drew ?_ | refine blk_alloc ?_ _)); exact BK232.out⟩, ⟨by (with_reducible repeat (first | refine blk_drewN ?_ _ | refine blk_drew ?_ | refine blk_alloc ?_ _)); exact BK233.out⟩, ⟨by repeat (first | (with_reducible first | exact HB.out | apply below_alloc | apply pw_below_drewN | apply below_drew1 | refine below_set ?_ GE231.out | refine below_set ?_ GE232.out | refine below_set ?_ GE233.out) | exact HB.out)⟩⟩
  case rest =>
    clear HC3
    try clear c1
    try clear p2
    try clear c8
    try clear c10
    try clear c11
    try clear c13
    try clear c14
    try clear c15
    try clear c17
    try clear c18
    try clear hcz12_0
    try clear hcz12_1
    try clear hcz15_0
    try clear hcz15_1
    try clear hcz19_0
    try clear hcz19_1
    try clear hfz12_0
    try clear hfz12_1
    try clear hfz15_0
    try clear hfz15_1
    try clear hfz19_0
    try clear hfz19_1
    obtain ⟨kq, x19_2, rfl, HA, HJ2, BK231, BK232, BK233, HB⟩ := hcut
    cases kq with
    | zero => exact absurd HA.out (by simp [soffitref01_Div.j0])
    | succ kj2 =>
      have H := HA.out
      clear HA
      simp only [soffitref01_Div.j0] at H
      by_cases c21 : x19_2 = true
      · subst c21
        have H1 : (some (0, 0, 2)) = some (r1, r2, r3) := by rw [if_pos rfl] at H; exact H
        clear H
        have H := H1
        clear H1
        simp only [Option.some.injEq, Prod.mk.injEq] at H
        obtain ⟨rfl, rfl, rfl⟩ := H
        have hnb22 := NB233_231.out
        have hnc22 := NB231_233.out
        have hnb23 := NB233_232.out
        have hnc23 := NB232_233.out
        have hcz24_0 : wc.cell? ⟨gb233, 0, none⟩ = some (.int .i64 0) := (blk_cell BK233.out 0).trans rfl
        have hcz24_1 : wc.cell? ⟨gb233, 1, none⟩ = some (.int .i64 0) := (blk_cell BK233.out 1).trans rfl
        have hfz24_0 := blk_frozen BK233.out 0
        have hfz24_1 := blk_frozen BK233.out 1
        go_wp2
        refine bodyPost_ret (results_ct rfl _ _ gb233 23 #[.int .i64 0, .int .i64 0] (0, 0) _ rfl (by (with_reducible repeat (first | refine blk_drewN ?_ _ | refine blk_drew ?_ | refine blk_alloc ?_ _)); refine blk_put (cs := #[.int .i64 0, .int .i64 0]) ?_ 1 _ rfl; (with_reducible repeat (first | refine blk_drewN ?_ _ | refine blk_drew ?_ | refine blk_alloc ?_ _)); refine blk_put (cs := #[.int .i64 0, .int .i64 0]) ?_ 0 _ rfl; (with_reducible repeat (first | refine blk_drewN ?_ _ | refine blk_drew ?_ | refine blk_alloc ?_ _)); exact BK233.out) Tryd.underlying23 rfl (by kernel_rfl)) rfl ?_
        exact ⟨by first | rfl | (simp [errW_none, errW_some] <;> rfl) | (simp [*, errW_none, errW_some] <;> rfl), by repeat (first | (with_reducible first | exact HB.out | apply below_alloc | apply pw_below_drewN | apply below_drew1 | refine below_set ?_ GE231.out | refine below_set ?_ GE232.out | refine below_set ?_ GE233.out) | exact HB.out)⟩
      · replace c21 := Bool.eq_false_iff.mpr c21
        subst c21
        have H1 : (if a1_0 = 0 then (some (0, 0, 4)) else ((soffitref01_size.f a0_0).bind fun t236 => ((soffitref01_digits.f kj2 t236 12).bind fun t237 => ((soffitref01_size.f a1_0).bind fun t240 => (if 60 ≤ 35184372088832 then (soffitref01_Div.l0 kj2 t237 t240 (List.replicate 60 0) 0 31 a0_0 a0_1 a1_0 a1_1) else (none)))))) = some (r1, r2, r3) := by rw [if_neg (show ¬ (false = true) by decide)] at H; exact H
        clear H
        have H := H1
        clear H1
        by_cases c25 : a1_0 = 0
        · rw [if_pos c25] at H
          have c25b0 : (a1_0 == 0) = true := beq_iff_eq.mpr c25
          have c25b1 : (a1_0 != 0) = false := bne_eq_false_iff_eq.mpr c25
          clear c25
          simp only [Option.some.injEq, Prod.mk.injEq] at H
          obtain ⟨rfl, rfl, rfl⟩ := H
          have hnb26 := NB232_231.out
          have hnc26 := NB231_232.out
          have hnb27 := NB232_233.out
          have hnc27 := NB233_232.out
          have hcz28_0 : wc.cell? ⟨gb232, 0, none⟩ = some (.int .i64 a1_0) := (blk_cell BK232.out 0).trans rfl
          have hcz28_1 : wc.cell? ⟨gb232, 1, none⟩ = some (.int .i64 a1_1) := (blk_cell BK232.out 1).trans rfl
          have hfz28_0 := blk_frozen BK232.out 0
          have hfz28_1 := blk_frozen BK232.out 1
          have hnb29 := NB233_231.out
          have hnc29 := NB231_233.out
          have hcz30_0 : wc.cell? ⟨gb233, 0, none⟩ = some (.int .i64 0) := (blk_cell BK233.out 0).trans rfl
          have hcz30_1 : wc.cell? ⟨gb233, 1, none⟩ = some (.int .i64 0) := (blk_cell BK233.out 1).trans rfl
          have hfz30_0 := blk_frozen BK233.out 0
          have hfz30_1 := blk_frozen BK233.out 1
          go_wp2
          refine bodyPost_ret (results_ct rfl _ _ gb233 23 #[.int .i64 0, .int .i64 0] (0, 0) _ rfl (by (with_reducible repeat (first | refine blk_drewN ?_ _ | refine blk_drew ?_ | refine blk_alloc ?_ _)); refine blk_put (cs := #[.int .i64 0, .int .i64 0]) ?_ 1 _ rfl; (with_reducible repeat (first | refine blk_drewN ?_ _ | refine blk_drew ?_ | refine blk_alloc ?_ _)); refine blk_put (cs := #[.int .i64 0, .int .i64 0]) ?_ 0 _ rfl; (with_reducible repeat (first | refine blk_drewN ?_ _ | refine blk_drew ?_ | refine blk_alloc ?_ _)); exact BK233.out) Tryd.underlying23 rfl (by kernel_rfl)) rfl ?_
          exact ⟨by first | rfl | (simp [errW_none, errW_some] <;> rfl) | (simp [*, errW_none, errW_some] <;> rfl), by repeat (first | (with_reducible first | exact HB.out | apply below_alloc | apply pw_below_drewN | apply below_drew1 | refine below_set ?_ GE231.out | refine below_set ?_ GE232.out | refine below_set ?_ GE233.out) | exact HB.out)⟩
        · rw [if_neg c25] at H
          have c25b0 : (a1_0 == 0) = false := beq_eq_false_iff_ne.mpr c25
          have c25b1 : (a1_0 != 0) = true := bne_iff_ne.mpr c25
          replace H := Option.bind_eq_some_iff.mp H
          obtain ⟨t236, A310, H⟩ := H
          replace H : ((soffitref01_digits.f kj2 t236 12).bind fun t237 => ((soffitref01_size.f a1_0).bind fun t240 => (if 60 ≤ 35184372088832 then (soffitref01_Div.l0 kj2 t237 t240 (List.replicate 60 0) 0 31 a0_0 a0_1 a1_0 a1_1) else (none)))) = some (r1, r2, r3) := H
          have A31 := Aside0.mk A310
          clear A310
          replace H := Option.bind_eq_some_iff.mp H
          obtain ⟨t237, A320, H⟩ := H
          replace H : ((soffitref01_size.f a1_0).bind fun t240 => (if 60 ≤ 35184372088832 then (soffitref01_Div.l0 kj2 t237 t240 (List.replicate 60 0) 0 31 a0_0 a0_1 a1_0 a1_1) else (none))) = some (r1, r2, r3) := H
          have A32 := Aside0.mk A320
          clear A320
          replace H := Option.bind_eq_some_iff.mp H
          obtain ⟨t240, A330, H⟩ := H
          replace H : (if 60 ≤ 35184372088832 then (soffitref01_Div.l0 kj2 t237 t240 (List.replicate 60 0) 0 31 a0_0 a0_1 a1_0 a1_1) else (none)) = some (r1, r2, r3) := H
          have A33 := Aside0.mk A330
          clear A330
          by_cases c34 : 60 ≤ 35184372088832
          · rw [if_pos c34] at H
            have c34b0 := eq_true c34
            have c34b1 : decide (60 ≤ 35184372088832) = true := decide_eq_true c34
            clear c34
            obtain ⟨y241, hy241⟩ : ∃ y_ : List Int, y_ = (List.replicate 60 0) := ⟨_, rfl⟩
            replace H : (soffitref01_Div.l0 kj2 t237 t240 y241 0 31 a0_0 a0_1 a1_0 a1_1) = some (r1, r2, r3) := by first | (rw [hy241]; with_reducible exact H) | (have H2_ := (Option.bind_some _ _).symm.trans H; rw [hy241]; with_reducible exact H2_) | (have H2_ := (Option.bind_some _ _).symm.trans H; with_reducible exact H2_) | with_reducible exact H | (rw [hy241]; exact H) | exact H
            have Ny241 := Aside0.mk hy241
            clear hy241
            have H' := Aside0.mk H
            clear H
            have hnb35 := NB232_231.out
            have hnc35 := NB231_232.out
            have hnb36 := NB232_233.out
            have hnc36 := NB233_232.out
            have hcz37_0 : wc.cell? ⟨gb232, 0, none⟩ = some (.int .i64 a1_0) := (blk_cell BK232.out 0).trans rfl
            have hcz37_1 : wc.cell? ⟨gb232, 1, none⟩ = some (.int .i64 a1_1) := (blk_cell BK232.out 1).trans rfl
            have hfz37_0 := blk_frozen BK232.out 0
            have hfz37_1 := blk_frozen BK232.out 1
            have hnb38 := NB231_233.out
            have hnc38 := NB233_231.out
            have hcz39_0 : wc.cell? ⟨gb231, 0, none⟩ = some (.int .i64 a0_0) := (blk_cell BK231.out 0).trans rfl
            have hcz39_1 : wc.cell? ⟨gb231, 1, none⟩ = some (.int .i64 a0_1) := (blk_cell BK231.out 1).trans rfl
            have hfz39_0 := blk_frozen BK231.out 0
            have hfz39_1 := blk_frozen BK231.out 1
            go_wp2_with (first | ((with_reducible refine gate_callee (f := 33) rfl ?_); refine goesL_ (some 27) rfl rfl Tryd.func33 (by kernel_rfl) rfl #[.int .i64 a0_0] rfl (by (try simp only [List.map_toArray, List.map_cons, List.map_nil]); first | done | rfl | (simp only [List.length_drop, List.length_take]; rfl)) ?_; (with_reducible refine (soffitref01_size.calls a0_0 t236 _ A31.out).mono ?_); rintro e w' ⟨rfl, ⟨nd, rfl⟩⟩; refine ⟨_, rfl, ?_⟩) | ((with_reducible refine gate_callee (f := 32) rfl ?_); refine goesL_ (some 28) rfl rfl Tryd.func32 (by kernel_rfl) rfl #[.int .i64 t236, .int .i64 12] rfl (by (try simp only [List.map_toArray, List.map_cons, List.map_nil]); first | done | rfl | (simp only [List.length_drop, List.length_take]; rfl)) ?_; (with_reducible refine (soffitref01_digits.calls kj2 t236 12 t237 _ A32.out).mono ?_); rintro e w40 ⟨v238, rfl, ho0, hb⟩; refine ⟨_, rfl, ?_⟩; have n0_ := Aside0.mk (Kd.R_lower ho0 (below_size (by repeat (first | (with_reducible first | exact HB.out | apply below_alloc | apply pw_below_drewN | apply below_drew1 | refine below_set ?_ GE231.out | refine below_set ?_ GE232.out | refine below_set ?_ GE233.out) | exact HB.out)))); have n1_ := Aside0.mk (blk_below (g := gb231) (o := .cells #[.int .i64 a0_0, .int .i64 a0_1] 23 (0, 0)) (by (with_reducible repeat (first | refine blk_drewN ?_ _ | refine blk_drew ?_ | refine blk_alloc ?_ _)); exact BK231.out) hb); have n2_ := Aside0.mk (blk_below (g := gb232) (o := .cells #[.int .i64 a1_0, .int .i64 a1_1] 23 (0, 0)) (by (with_reducible repeat (first | refine blk_drewN ?_ _ | refine blk_drew ?_ | refine blk_alloc ?_ _)); exact BK232.out) hb); have n3_ := Aside0.mk (blk_below (g := gb233) (o := .cells #[.int .i64 0, .int .i64 0] 23 (0, 0)) (by (with_reducible repeat (first | refine blk_drewN ?_ _ | refine blk_drew ?_ | refine blk_alloc ?_ _)); exact BK233.out) hb); have n4_ := Aside0.mk (below_step (by repeat (first | (with_reducible first | exact HB.out | apply below_alloc | apply pw_below_drewN | apply below_drew1 | refine below_set ?_ GE231.out | refine below_set ?_ GE232.out | refine below_set ?_ GE233.out) | exact HB.out)) hb); clear BK231; clear BK232; clear BK233; clear HB; have HO239 := n0_; have BK231 := n1_; have BK232 := n2_; have BK233 := n3_; have HB := n4_; clear n0_ n1_ n2_ n3_ n4_; (try clear hb); (try clear hb2); (try clear hk); (try clear hi); (try clear ho0); have hcz41_0 : w40.cell? ⟨gb232, 0, none⟩ = some (.int .i64 a1_0) := (blk_cell BK232.out 0).trans rfl; have hcz41_1 : w40.cell? ⟨gb232, 1, none⟩ = some (.int .i64 a1_1) := (blk_cell BK232.out 1).trans rfl; have hfz41_0 := blk_frozen BK232.out 0; have hfz41_1 := blk_frozen BK232.out 1) | ((with_reducible refine gate_callee (f := 33) rfl ?_); refine goesL_ (some 31) rfl rfl Tryd.func33 (by kernel_rfl) rfl #[.int .i64 a1_0] rfl (by (try simp only [List.map_toArray, List.map_cons, List.map_nil]); first | done | rfl | (simp only [List.length_drop, List.length_take]; rfl)) ?_; (with_reducible refine (soffitref01_size.calls a1_0 t240 _ A33.out).mono ?_); rintro e w' ⟨rfl, ⟨nd, rfl⟩⟩; refine ⟨_, rfl, ?_⟩) | ((with_reducible refine gate_dst (N := 32) rfl ?_); refine Kd.R_make (Kd.int .i64) _ 3 rfl (N := 32) rfl 55 _ _ rfl 60 rfl rfl Tryd.underlying55 (.int .i64 0) 8 info3 rfl (by decide) (by omega) 0 (ok := fun _ => True) (okp := fun _ => True) rfl (fun _ hk => hk) trivial (by omega) (by omega) (Below.refl _ _) (Nat.le_refl _) ?_; intro v242 w42 ho43 hb hg_ hnew_; clear hg_ hnew_; (first | rw [← Ny241.out] at ho43 | (simp only [Int.reduceToNat] at ho43; rw [← Ny241.out] at ho43)); have n0_ := Aside0.mk (Kd.R_elder' (by (with_reducible repeat (first | apply Kd.R_alloc | apply Kd.R_drewN | apply Kd.R_drew)); exact HO239.out) (Kd.R_base ho43) hb); have n1_ := Aside0.mk (Kd.R_lower (Kd.R_new' ho43 (Kd.R_lt (by (with_reducible repeat (first | apply Kd.R_alloc | apply Kd.R_drewN | apply Kd.R_drew)); exact HO239.out))) (below_size (by repeat (first | (with_reducible first | exact HB.out | apply below_alloc | apply pw_below_drewN | apply below_drew1 | refine below_set ?_ GE231.out | refine below_set ?_ GE232.out | refine below_set ?_ GE233.out) | exact HB.out)))); have n2_ := Aside0.mk (blk_below (g := gb231) (o := .cells #[.int .i64 a0_0, .int .i64 a0_1] 23 (0, 0)) (by (with_reducible repeat (first | refine blk_drewN ?_ _ | refine blk_drew ?_ | refine blk_alloc ?_ _)); exact BK231.out) hb); have n3_ := Aside0.mk (blk_below (g := gb232) (o := .cells #[.int .i64 a1_0, .int .i64 a1_1] 23 (0, 0)) (by (with_reducible repeat (first | refine blk_drewN ?_ _ | refine blk_drew ?_ | refine blk_alloc ?_ _)); exact BK232.out) hb); have n4_ := Aside0.mk (blk_below (g := gb233) (o := .cells #[.int .i64 0, .int .i64 0] 23 (0, 0)) (by (with_reducible repeat (first | refine blk_drewN ?_ _ | refine blk_drew ?_ | refine blk_alloc ?_ _)); exact BK233.out) hb); have n5_ := Aside0.mk (below_step (by repeat (first | (with_reducible first | exact HB.out | apply below_alloc | apply pw_below_drewN | apply below_drew1 | refine below_set ?_ GE231.out | refine below_set ?_ GE232.out | refine below_set ?_ GE233.out) | exact HB.out)) hb); clear HO239; clear BK231; clear BK232; clear BK233; clear HB; have HO239 := n0_; have HO243 := n1_; have BK231 := n2_; have BK232 := n3_; have BK233 := n4_; have HB := n5_; clear n0_ n1_ n2_ n3_ n4_ n5_; clear hb ho43))
            (try simp only [Act.put, List.setIfInBounds_toArray, List.set_cons_succ, List.set_cons_zero])
            go_loopg [9, 10] kj2 (fun kq v9 v10 w' => ∃ (x8_2 : List Int) (x9_2 : Int) (x10_2 : Int), v9 = .int .i64 x9_2 ∧ v10 = .int .i64 x10_2 ∧ Aside0 (soffitref01_Div.l0 kq t237 t240 x8_2 x9_2 x10_2 a0_0 a0_1 a1_0 a1_1 = some (r1, r2, r3)) ∧ Aside0 (kq ≤ kj2) ∧ Aside0 (Kd.R (Kd.int .i64) 3 w' w.heap.size (fun k_ => some k_ ≠ (v242 : Value).ownBlock) v238 t237) ∧ Aside0 (Kd.R (Kd.int .i64) 3 w' w.heap.size (fun k_ => some k_ ≠ (v238 : Value).ownBlock) v242 x8_2) ∧ Aside0 (w'.heap[gb231]? = some (.cells #[.int .i64 a0_0, .int .i64 a0_1] 23 (0, 0))) ∧ Aside0 (w'.heap[gb232]? = some (.cells #[.int .i64 a1_0, .int .i64 a1_1] 23 (0, 0))) ∧ Aside0 (w'.heap[gb233]? = some (.cells #[.int .i64 0, .int .i64 0] 23 (0, 0))) ∧ Aside0 (Below w.heap.size w w'))
            case atStart => exact ⟨(y241), (0), (31), (by first | rfl | (simp; done) | (simp [*]; done)), (by first | rfl | (simp; done) | (simp [*]; done)), H', ⟨Nat.le_refl _⟩, ⟨by (with_reducible repeat (first | apply Kd.R_alloc | apply Kd.R_drewN | apply Kd.R_drew)); exact Kd.R_mono HO239.out (fun _ hk => hk.2)⟩, ⟨by (with_reducible repeat (first | apply Kd.R_alloc | apply Kd.R_drewN | apply Kd.R_drew)); exact Kd.R_mono HO243.out (fun _ hk => hk.2)⟩, ⟨by (with_reducible repeat (first | refine blk_drewN ?_ _ | refine blk_drew ?_ | refine blk_alloc ?_ _)); exact BK231.out⟩, ⟨by (with_reducible repeat (first | refine blk_drewN ?_ _ | refine blk_drew ?_ | refine blk_alloc ?_ _)); exact BK232.out⟩, ⟨by (with_reducible repeat (first | refine blk_drewN ?_ _ | refine blk_drew ?_ | refine blk_alloc ?_ _)); exact BK233.out⟩, ⟨by repeat (first | (with_reducible first | exact HB.out | apply below_alloc | apply pw_below_drewN | apply below_drew1 | refine below_set ?_ GE231.out | refine below_set ?_ GE232.out | refine below_set ?_ GE233.out) | exact HB.out)⟩⟩
            case round =>
              clear H'
              try clear c1
              try clear c2
              try clear p2
              try clear c3
              try clear c8
              try clear c10
              try clear c11
              try clear c13
              try clear c14
              try clear c15
              try clear c17
              try clear c18
              try clear c21
              try clear c22
              try clear c23
              try clear c25
              try clear c25b0
              try clear c25b1
              try clear c26
              try clear c27
              try clear c29
              try clear c32
              try clear c33
              try clear c34
              try clear c34b0
              try clear c34b1
              try clear c35
              try clear c36
              try clear c38
              try clear hcz12_0
              try clear hcz12_1
              try clear hcz15_0
              try clear hcz15_1
              try clear hcz19_0
              try clear hcz19_1
              try clear hcz24_0
              try clear hcz24_1
              try clear hcz28_0
              try clear hcz28_1
              try clear hcz30_0
              try clear hcz30_1
              try clear hcz37_0
              try clear hcz37_1
              try clear hcz39_0
              try clear hcz39_1
              try clear hcz41_0
              try clear hcz41_1
              try clear hfz12_0
              try clear hfz12_1
              try clear hfz15_0
              try clear hfz15_1
              try clear hfz19_0
              try clear hfz19_1
              try clear hfz24_0
              try clear hfz24_1
              try clear hfz28_0
              try clear hfz28_1
              try clear hfz30_0
              try clear hfz30_1
              try clear hfz37_0
              try clear hfz37_1
              try clear hfz39_0
              try clear hfz39_1
              try clear hfz41_0
              try clear hfz41_1
              try clear p2
              obtain ⟨x8_2, x9_2, x10_2, rfl, rfl, HA, HK2, HO_6, HO_8, BK231, BK232, BK233, HB⟩ := hrel
              cases gk with
              | zero => exact absurd HA.out (by simp [soffitref01_Div.l0])
              | succ k2 =>
                have H := HA.out
                clear HA
                simp only [soffitref01_Div.l0] at H
                by_cases c44 : x10_2 ≥ 0
                · rw [if_pos c44] at H
                  have c44b0 : decide (0 ≤ x10_2) = true := decide_eq_true c44
                  clear c44
                  by_cases c45 : x10_2 ≥ 20
                  · rw [if_pos c45] at H
                    have c45b0 : decide (20 ≤ x10_2) = true := decide_eq_true c45
                    clear c45
                    obtain ⟨ji46, hji46⟩ : ∃ j_ : Int, (wrap64 (x10_2 - 20)) = j_ := ⟨_, rfl⟩
                    replace H : (if 0 ≤ (ji46) then (if (ji46) < (t237.length : Int) then (if t240 = 0 then (none) else (if 0 ≤ x10_2 then (if x10_2 < (x8_2.length : Int) then (soffitref01_Div.l0 k2 t237 t240 (x8_2.set (x10_2 : Int).toNat (wrap64 (Int.tdiv (wrap64 ((wrap64 (x9_2 * 10)) + (rd t237 (ji46)))) t240))) (Int.tmod (wrap64 ((wrap64 (x9_2 * 10)) + (rd t237 (ji46)))) t240) (wrap64 (x10_2 - 1)) a0_0 a0_1 a1_0 a1_1) else (none)) else (none))) else (none)) else (none)) = some (r1, r2, r3) := by first | (rw [hji46] at H; exact H) | (simp only [hji46] at H ⊢; exact H)
                    have hji46w : (IntKind.i64.wrap (x10_2 - 20)) = ji46 := (i64_w _).trans hji46
                    by_cases c47 : 0 ≤ (ji46)
                    · rw [if_pos c47] at H
                      have c47b0 : decide (0 ≤ (ji46)) = true := decide_eq_true c47
                      clear c47
                      by_cases c48 : (ji46) < (t237.length : Int)
                      · rw [if_pos c48] at H
                        have c48b0 : decide ((ji46) < (t237.length : Int)) = true := decide_eq_true c48
                        clear c48
                        by_cases c49 : t240 = 0
                        · rw [if_pos c49] at H
                          exact absurd H (by simp)
                        · rw [if_neg c49] at H
                          have c49b0 : (t240 == 0) = false := beq_eq_false_iff_ne.mpr c49
                          have c49b1 : (t240 != 0) = true := bne_iff_ne.mpr c49
                          by_cases c50 : 0 ≤ x10_2
                          · rw [if_pos c50] at H
                            have c50b0 : decide (0 ≤ x10_2) = true := decide_eq_true c50
                            clear c50
                            by_cases c51 : x10_2 < (x8_2.length : Int)
                            · rw [if_pos c51] at H
                              have c51b0 : decide (x10_2 < (x8_2.length : Int)) = true := decide_eq_true c51
                              clear c51
                              obtain ⟨y245, hy245⟩ : ∃ y_ : List Int, y_ = (x8_2.set (x10_2 : Int).toNat (wrap64 (Int.tdiv (wrap64 ((wrap64 (x9_2 * 10)) + (rd t237 (ji46)))) t240))) := ⟨_, rfl⟩
                              replace H : (soffitref01_Div.l0 k2 t237 t240 y245 (Int.tmod (wrap64 ((wrap64 (x9_2 * 10)) + (rd t237 (ji46)))) t240) (wrap64 (x10_2 - 1)) a0_0 a0_1 a1_0 a1_1) = some (r1, r2, r3) := by first | (rw [hy245]; with_reducible exact H) | (have H2_ := (Option.bind_some _ _).symm.trans H; rw [hy245]; with_reducible exact H2_) | (have H2_ := (Option.bind_some _ _).symm.trans H; with_reducible exact H2_) | with_reducible exact H | (rw [hy245]; exact H) | exact H
                              have Ny245 := Aside0.mk hy245
                              clear hy245
                              have H' := Aside0.mk H
                              clear H
                              obtain ⟨Ao53, co53, eo53⟩ := Kd.R_slice HO_6.out
                              subst eo53
                              have p244 : 0 ≤ ((ji46) : Int) := of_decide_eq_true (by first | (with_reducible assumption) | assumption)
                              have q244 : (ji46) < (t237.length : Int) := of_decide_eq_true (by first | (with_reducible assumption) | assumption)
                              obtain ⟨ad244, e244, hx244_0⟩ := Kd.at_int (Kd.R_reads' HO_6.out).2.2 (ji46) p244 q244
                              cases e244
                              replace p244 := eq_true p244
                              replace q244 := eq_true q244
                              have p52 : 0 ≤ (x10_2 : Int) := of_decide_eq_true (by first | (with_reducible assumption) | assumption)
                              have q52 : (x10_2 : Int) < ((x8_2.length : Int) : Int) := of_decide_eq_true (by first | (with_reducible assumption) | assumption)
                              obtain ⟨go52, co52, eo52, gb52, gl52, cl52, HG52⟩ := Kd.R_form HO_8.out (by omega)
                              (first | cases eo52 | (injection eo52 with ea_ en_ ec_; (first | subst ea_ | (injection ea_ with ea_; subst ea_)); subst ec_; clear en_))
                              have GB52 := Aside0.mk gb52
                              have GG52 := Aside0.mk HG52
                              clear gb52 gl52 HG52
                              obtain ⟨hx52_0, hf52_0⟩ := Kd.R_celln 0 HO_8.out (x10_2 : Int) p52 q52
                              replace p52 := eq_true p52
                              replace q52 := eq_true q52
                              obtain ⟨hy54_, hz54_⟩ := Kd.R_celln 0 HO_8.out (x10_2 : Int) (of_decide_eq_true (by first | (with_reducible assumption) | assumption)) (of_decide_eq_true (by first | (with_reducible assumption) | assumption))
                              have HP54 := Kd.R_putg HO_8.out (x10_2 : Int) (wrap64 (Int.tdiv (wrap64 ((wrap64 (x9_2 * 10)) + (rd t237 (ji46)))) t240))
                              go_wp2_with (first | ((with_reducible refine gate_store (t := 3) (p := 53) rfl ?_); refine store_event (t := 3) (p := 53) (v := ?vo_w55) (w1 := (wr.setCell ⟨go52, (x10_2 : Int).toNat, none⟩ (.int .i64 (wrap64 (Int.tdiv (wrap64 ((wrap64 (x9_2 * 10)) + (rd t237 (ji46)))) t240))))) ?hg ?ho ?hn ?hr ?_; (case ho => rfl); (case hg => rfl); (case hn => rfl); (case hr => first | (go_simp; done) | (go_simp; rfl)); intro w55 hw; have hg : wr.grownBy w55 (some go52) := (by rw [hw]; exact HP54.2); have hp_ : Kd.R (Kd.int .i64) 3 w55 w.heap.size (fun k_ => some k_ ≠ (.slice (some ad244) t237.length co53 : Value).ownBlock) (.slice (some ⟨go52, 0, none⟩) x8_2.length co52) y245 := (by rw [hw, Ny245.out]; exact HP54.1); clear HP54; have n0_ := Aside0.mk (Kd.R_after (v := (.slice (some ⟨go52, 0, none⟩) x8_2.length co52)) (v1 := (.slice (some ⟨go52, 0, none⟩) x8_2.length co52)) (ok := (fun _ => True)) (by (with_reducible repeat (first | apply Kd.R_alloc | apply Kd.R_drewN | apply Kd.R_drew)); exact Kd.R_mono HO_6.out (fun _ hk => ⟨trivial, hk⟩)) hg (.inl rfl)); have n1_ := Aside0.mk (hp_); have n2_ := Aside0.mk (blk_grown (g := gb231) (o := .cells #[.int .i64 a0_0, .int .i64 a0_1] 23 (0, 0)) (by (with_reducible repeat (first | refine blk_drewN ?_ _ | refine blk_drew ?_ | refine blk_alloc ?_ _)); exact BK231.out) hg (Kd.R_ne HO_8.out BK231.out (by decide))); have n3_ := Aside0.mk (blk_grown (g := gb232) (o := .cells #[.int .i64 a1_0, .int .i64 a1_1] 23 (0, 0)) (by (with_reducible repeat (first | refine blk_drewN ?_ _ | refine blk_drew ?_ | refine blk_alloc ?_ _)); exact BK232.out) hg (Kd.R_ne HO_8.out BK232.out (by decide))); have n4_ := Aside0.mk (blk_grown (g := gb233) (o := .cells #[.int .i64 0, .int .i64 0] 23 (0, 0)) (by (with_reducible repeat (first | refine blk_drewN ?_ _ | refine blk_drew ?_ | refine blk_alloc ?_ _)); exact BK233.out) hg (Kd.R_ne HO_8.out BK233.out (by decide))); have n5_ := Aside0.mk ((by rw [hw]; exact below_set (HB.out) GB52.out : Below w.heap.size w w55)); clear HO_6; clear HO_8; clear BK231; clear BK232; clear BK233; clear HB; have HO_6 := n0_; have HO_8 := n1_; have BK231 := n2_; have BK232 := n3_; have BK233 := n4_; have HB := n5_; clear n0_ n1_ n2_ n3_ n4_ n5_; clear hg hw hp_))
                              go_roundg k2
                              case measure => have := HJ2.out; have := HK2.out; omega
                              case rel => exact ⟨(y245), (Int.tmod (wrap64 ((wrap64 (x9_2 * 10)) + (rd t237 (ji46)))) t240), (wrap64 (x10_2 - 1)), (by first | rfl | (simp; done) | (simp only [← hji46] <;> (first | rfl | simp)) | (simp [*]; done)), (by first | rfl | (simp; done) | (simp [*]; done)), H', ⟨by have := HJ2.out; have := HK2.out; omega⟩, ⟨by (with_reducible repeat (first | apply Kd.R_alloc | apply Kd.R_drewN | apply Kd.R_drew)); exact Kd.R_mono HO_6.out (fun _ hk => hk.2)⟩, ⟨by (with_reducible repeat (first | apply Kd.R_alloc | apply Kd.R_drewN | apply Kd.R_drew)); exact HO_8.out⟩, ⟨by (with_reducible repeat (first | refine blk_drewN ?_ _ | refine blk_drew ?_ | refine blk_alloc ?_ _)); exact BK231.out⟩, ⟨by (with_reducible repeat (first | refine blk_drewN ?_ _ | refine blk_drew ?_ | refine blk_alloc ?_ _)); exact BK232.out⟩, ⟨by (with_reducible repeat (first | refine blk_drewN ?_ _ | refine blk_drew ?_ | refine blk_alloc ?_ _)); exact BK233.out⟩, ⟨by repeat (first | (with_reducible first | exact HB.out | apply below_alloc | apply pw_below_drewN | apply below_drew1 | refine below_set ?_ GE231.out | refine below_set ?_ GE232.out | refine below_set ?_ GE233.out) | exact HB.out)⟩⟩
                            · rw [if_neg c51] at H
                              exact absurd H (by simp)
                          · rw [if_neg c50] at H
                            exact absurd H (by simp)
                      · rw [if_neg c48] at H
                        exact absurd H (by simp)
                    · rw [if_neg c47] at H
                      exact absurd H (by simp)
                  · rw [if_neg c45] at H
                    have c45b0 : decide (20 ≤ x10_2) = false := decide_eq_false c45
                    clear c45
                    by_cases c56 : t240 = 0
                    · rw [if_pos c56] at H
                      exact absurd H (by simp)
                    · rw [if_neg c56] at H
                      have c56b0 : (t240 == 0) = false := beq_eq_false_iff_ne.mpr c56
                      have c56b1 : (t240 != 0) = true := bne_iff_ne.mpr c56
                      by_cases c57 : 0 ≤ x10_2
                      · rw [if_pos c57] at H
                        have c57b0 : decide (0 ≤ x10_2) = true := decide_eq_true c57
                        clear c57
                        by_cases c58 : x10_2 < (x8_2.length : Int)
                        · rw [if_pos c58] at H
                          have c58b0 : decide (x10_2 < (x8_2.length : Int)) = true := decide_eq_true c58
                          clear c58
                          obtain ⟨y246, hy246⟩ : ∃ y_ : List Int, y_ = (x8_2.set (x10_2 : Int).toNat (wrap64 (Int.tdiv (wrap64 ((wrap64 (x9_2 * 10)) + 0)) t240))) := ⟨_, rfl⟩
                          replace H : (soffitref01_Div.l0 k2 t237 t240 y246 (Int.tmod (wrap64 ((wrap64 (x9_2 * 10)) + 0)) t240) (wrap64 (x10_2 - 1)) a0_0 a0_1 a1_0 a1_1) = some (r1, r2, r3) := by first | (rw [hy246]; with_reducible exact H) | (have H2_ := (Option.bind_some _ _).symm.trans H; rw [hy246]; with_reducible exact H2_) | (have H2_ := (Option.bind_some _ _).symm.trans H; with_reducible exact H2_) | with_reducible exact H | (rw [hy246]; exact H) | exact H
                          have Ny246 := Aside0.mk hy246
                          clear hy246
                          have H' := Aside0.mk H
                          clear H
                          have p59 : 0 ≤ (x10_2 : Int) := of_decide_eq_true (by first | (with_reducible assumption) | assumption)
                          have q59 : (x10_2 : Int) < ((x8_2.length : Int) : Int) := of_decide_eq_true (by first | (with_reducible assumption) | assumption)
                          obtain ⟨go59, co59, eo59, gb59, gl59, cl59, HG59⟩ := Kd.R_form HO_8.out (by omega)
                          (first | cases eo59 | (injection eo59 with ea_ en_ ec_; (first | subst ea_ | (injection ea_ with ea_; subst ea_)); subst ec_; clear en_))
                          have GB59 := Aside0.mk gb59
                          have GG59 := Aside0.mk HG59
                          clear gb59 gl59 HG59
                          obtain ⟨hx59_0, hf59_0⟩ := Kd.R_celln 0 HO_8.out (x10_2 : Int) p59 q59
                          replace p59 := eq_true p59
                          replace q59 := eq_true q59
                          obtain ⟨hy60_, hz60_⟩ := Kd.R_celln 0 HO_8.out (x10_2 : Int) (of_decide_eq_true (by first | (with_reducible assumption) | assumption)) (of_decide_eq_true (by first | (with_reducible assumption) | assumption))
                          have HP60 := Kd.R_putg HO_8.out (x10_2 : Int) (wrap64 (Int.tdiv (wrap64 ((wrap64 (x9_2 * 10)) + 0)) t240))
                          go_wp2_with (first | ((with_reducible refine gate_store (t := 3) (p := 53) rfl ?_); refine store_event (t := 3) (p := 53) (v := ?vo_w61) (w1 := (wr.setCell ⟨go59, (x10_2 : Int).toNat, none⟩ (.int .i64 (wrap64 (Int.tdiv (wrap64 ((wrap64 (x9_2 * 10)) + 0)) t240))))) ?hg ?ho ?hn ?hr ?_; (case ho => rfl); (case hg => rfl); (case hn => rfl); (case hr => first | (go_simp; done) | (go_simp; rfl)); intro w61 hw; have hg : wr.grownBy w61 (some go59) := (by rw [hw]; exact HP60.2); have hp_ : Kd.R (Kd.int .i64) 3 w61 w.heap.size (fun k_ => some k_ ≠ (v238 : Value).ownBlock) (.slice (some ⟨go59, 0, none⟩) x8_2.length co59) y246 := (by rw [hw, Ny246.out]; exact HP60.1); clear HP60; have n0_ := Aside0.mk (Kd.R_after (v := (.slice (some ⟨go59, 0, none⟩) x8_2.length co59)) (v1 := (.slice (some ⟨go59, 0, none⟩) x8_2.length co59)) (ok := (fun _ => True)) (by (with_reducible repeat (first | apply Kd.R_alloc | apply Kd.R_drewN | apply Kd.R_drew)); exact Kd.R_mono HO_6.out (fun _ hk => ⟨trivial, hk⟩)) hg (.inl rfl)); have n1_ := Aside0.mk (hp_); have n2_ := Aside0.mk (blk_grown (g := gb231) (o := .cells #[.int .i64 a0_0, .int .i64 a0_1] 23 (0, 0)) (by (with_reducible repeat (first | refine blk_drewN ?_ _ | refine blk_drew ?_ | refine blk_alloc ?_ _)); exact BK231.out) hg (Kd.R_ne HO_8.out BK231.out (by decide))); have n3_ := Aside0.mk (blk_grown (g := gb232) (o := .cells #[.int .i64 a1_0, .int .i64 a1_1] 23 (0, 0)) (by (with_reducible repeat (first | refine blk_drewN ?_ _ | refine blk_drew ?_ | refine blk_alloc ?_ _)); exact BK232.out) hg (Kd.R_ne HO_8.out BK232.out (by decide))); have n4_ := Aside0.mk (blk_grown (g := gb233) (o := .cells #[.int .i64 0, .int .i64 0] 23 (0, 0)) (by (with_reducible repeat (first | refine blk_drewN ?_ _ | refine blk_drew ?_ | refine blk_alloc ?_ _)); exact BK233.out) hg (Kd.R_ne HO_8.out BK233.out (by decide))); have n5_ := Aside0.mk ((by rw [hw]; exact below_set (HB.out) GB59.out : Below w.heap.size w w61)); clear HO_6; clear HO_8; clear BK231; clear BK232; clear BK233; clear HB; have HO_6 := n0_; have HO_8 := n1_; have BK231 := n2_; have BK232 := n3_; have BK233 := n4_; have HB := n5_; clear n0_ n1_ n2_ n3_ n4_ n5_; clear hg hw hp_))
                          go_roundg k2
                          case measure => have := HJ2.out; have := HK2.out; omega
                          case rel => exact ⟨(y246), (Int.tmod (wrap64 ((wrap64 (x9_2 * 10)) + 0)) t240), (wrap64 (x10_2 - 1)), (by first | rfl | (simp; done) | (simp [*]; done)), (by first | rfl | (simp; done) | (simp [*]; done)), H', ⟨by have := HJ2.out; have := HK2.out; omega⟩, ⟨by (with_reducible repeat (first | apply Kd.R_alloc | apply Kd.R_drewN | apply Kd.R_drew)); exact Kd.R_mono HO_6.out (fun _ hk => hk.2)⟩, ⟨by (with_reducible repeat (first | apply Kd.R_alloc | apply Kd.R_drewN | apply Kd.R_drew)); exact HO_8.out⟩, ⟨by (with_reducible repeat (first | refine blk_drewN ?_ _ | refine blk_drew ?_ | refine blk_alloc ?_ _)); exact BK231.out⟩, ⟨by (with_reducible repeat (first | refine blk_drewN ?_ _ | refine blk_drew ?_ | refine blk_alloc ?_ _)); exact BK232.out⟩, ⟨by (with_reducible repeat (first | refine blk_drewN ?_ _ | refine blk_drew ?_ | refine blk_alloc ?_ _)); exact BK233.out⟩, ⟨by repeat (first | (with_reducible first | exact HB.out | apply below_alloc | apply pw_below_drewN | apply below_drew1 | refine below_set ?_ GE231.out | refine below_set ?_ GE232.out | refine below_set ?_ GE233.out) | exact HB.out)⟩⟩
                        · rw [if_neg c58] at H
                          exact absurd H (by simp)
                      · rw [if_neg c57] at H
                        exact absurd H (by simp)
                · rw [if_neg c44] at H
                  have c44b0 : decide (0 ≤ x10_2) = false := decide_eq_false c44
                  clear c44
                  by_cases c62 : x9_2 > 0
                  · rw [if_pos c62] at H
                    have c62b0 : decide (0 < x9_2) = true := decide_eq_true c62
                    clear c62
                    by_cases c63 : 0 < (x8_2.length : Int)
                    · rw [if_pos c63] at H
                      have c63b0 : decide (0 < (x8_2.length : Int)) = true := decide_eq_true c63
                      have c63b1 : decide (0 < x8_2.length) = true := decide_eq_true (by omega)
                      clear c63
                      by_cases c64 : (rd x8_2 0) = 0
                      · rw [if_pos c64] at H
                        have c64b0 : ((rd x8_2 0) == 0) = true := beq_iff_eq.mpr c64
                        have c64b1 : ((rd x8_2 0) != 0) = false := bne_eq_false_iff_eq.mpr c64
                        clear c64
                        obtain ⟨y248, hy248⟩ : ∃ y_ : List Int, y_ = (x8_2.set (0 : Int).toNat 1) := ⟨_, rfl⟩
                        replace H : ((soffitref01_dec.f k2 y248 (wrap64 ((wrap64 (20 + a0_1)) - a1_1)) ((decide (a0_0 < 0)) != (decide (a1_0 < 0)))).bind fun bt249 => (some (bt249.1, bt249.2.1, bt249.2.2))) = some (r1, r2, r3) := by first | (rw [hy248]; with_reducible exact H) | (have H2_ := (Option.bind_some _ _).symm.trans H; rw [hy248]; with_reducible exact H2_) | (have H2_ := (Option.bind_some _ _).symm.trans H; with_reducible exact H2_) | with_reducible exact H | (rw [hy248]; exact H) | exact H
                        have Ny248 := Aside0.mk hy248
                        clear hy248
                        replace H := Option.bind_eq_some_iff.mp H
                        obtain ⟨⟨t249, t250, t251⟩, A660, H⟩ := H
                        replace H : (some (t249, t250, t251)) = some (r1, r2, r3) := H
                        have A66 := Aside0.mk A660
                        clear A660
                        simp only [Option.some.injEq, Prod.mk.injEq] at H
                        obtain ⟨rfl, rfl, rfl⟩ := H
                        obtain ⟨Ao67, co67, eo67⟩ := Kd.R_slice HO_8.out
                        subst eo67
                        have p247 : 0 ≤ (0 : Int) := (by omega)
                        have q247 : 0 < (x8_2.length : Int) := of_decide_eq_true (by first | (with_reducible assumption) | assumption)
                        obtain ⟨ad247, e247, hx247_0⟩ := Kd.at_int (Kd.R_reads' HO_8.out).2.2 0 p247 q247
                        cases e247
                        have qi247 : (0 < x8_2.length) = True := eq_true (by omega)
                        (try rw [show ((0 : Int)).toNat = 0 from rfl] at hx247_0)
                        (try rw [Addr.add_zero'] at hx247_0)
                        replace p247 := eq_true p247
                        replace q247 := eq_true q247
                        have p65 : 0 ≤ (0 : Int) := (by omega)
                        have q65 : (0 : Int) < ((x8_2.length : Int) : Int) := of_decide_eq_true (by first | (with_reducible assumption) | assumption)
                        have qi65 : (0 < x8_2.length) = True := eq_true (by omega)
                        obtain ⟨go65, co65, eo65, gb65, gl65, cl65, HG65⟩ := Kd.R_form HO_8.out (by omega)
                        (first | cases eo65 | (injection eo65 with ea_ en_ ec_; (first | subst ea_ | (injection ea_ with ea_; subst ea_)); subst ec_; clear en_))
                        have GB65 := Aside0.mk gb65
                        have GG65 := Aside0.mk HG65
                        clear gb65 gl65 HG65
                        (first | simp only [add_plain] at hx247_0 | skip)
                        obtain ⟨hx65_0, hf65_0⟩ := Kd.R_celln 0 HO_8.out (0 : Int) p65 q65
                        (try rw [show ((0 : Int)).toNat = 0 from rfl] at hx65_0)
                        (try simp only [Nat.reduceMul, Nat.zero_mul, Nat.zero_add, Nat.reduceAdd] at hx65_0)
                        (try rw [show ((0 : Int)).toNat = 0 from rfl] at hf65_0)
                        (try simp only [Nat.reduceMul, Nat.zero_mul, Nat.zero_add, Nat.reduceAdd] at hf65_0)
                        replace p65 := eq_true p65
                        replace q65 := eq_true q65
                        obtain ⟨hy68_, hz68_⟩ := Kd.R_celln 0 HO_8.out (0 : Int) (by omega) (of_decide_eq_true (by first | (with_reducible assumption) | assumption))
                        (try simp only [Int.reduceToNat, Int.toNat_zero, Int.toNat_ofNat, Nat.reduceMul, Nat.zero_mul, Nat.zero_add] at hy68_ hz68_)
                        (try rw [show ((0 : Int)).toNat = 0 from rfl] at hy68_)
                        (try rw [show ((0 : Int)).toNat = 0 from rfl] at hz68_)
                        have HP68 := Kd.R_putg HO_8.out (0 : Int) 1
                        go_wp2_with (first | ((with_reducible refine gate_store (t := 3) (p := 66) rfl ?_); refine store_event (t := 3) (p := 66) (v := ?vo_w69) (w1 := (wr.setCell ⟨go65, (0 : Int).toNat, none⟩ (.int .i64 1))) ?hg ?ho ?hn ?hr ?_; (case ho => rfl); (case hg => rfl); (case hn => rfl); (case hr => first | (go_simp; done) | (go_simp; rfl)); intro w69 hw; have hg : wr.grownBy w69 (some go65) := (by rw [hw]; exact HP68.2); have hp_ : Kd.R (Kd.int .i64) 3 w69 w.heap.size (fun k_ => some k_ ≠ (v238 : Value).ownBlock) (.slice (some ⟨go65, 0, none⟩) x8_2.length co67) y248 := (by rw [hw, Ny248.out]; exact HP68.1); clear HP68; have n0_ := Aside0.mk (Kd.R_after (v := (.slice (some ⟨go65, 0, none⟩) x8_2.length co67)) (v1 := (.slice (some ⟨go65, 0, none⟩) x8_2.length co67)) (ok := (fun _ => True)) (by (with_reducible repeat (first | apply Kd.R_alloc | apply Kd.R_drewN | apply Kd.R_drew)); exact Kd.R_mono HO_6.out (fun _ hk => ⟨trivial, hk⟩)) hg (.inl rfl)); have n1_ := Aside0.mk (hp_); have n2_ := Aside0.mk (blk_grown (g := gb231) (o := .cells #[.int .i64 a0_0, .int .i64 a0_1] 23 (0, 0)) (by (with_reducible repeat (first | refine blk_drewN ?_ _ | refine blk_drew ?_ | refine blk_alloc ?_ _)); exact BK231.out) hg (Kd.R_ne HO_8.out BK231.out (by decide))); have n3_ := Aside0.mk (blk_grown (g := gb232) (o := .cells #[.int .i64 a1_0, .int .i64 a1_1] 23 (0, 0)) (by (with_reducible repeat (first | refine blk_drewN ?_ _ | refine blk_drew ?_ | refine blk_alloc ?_ _)); exact BK232.out) hg (Kd.R_ne HO_8.out BK232.out (by decide))); have n4_ := Aside0.mk (blk_grown (g := gb233) (o := .cells #[.int .i64 0, .int .i64 0] 23 (0, 0)) (by (with_reducible repeat (first | refine blk_drewN ?_ _ | refine blk_drew ?_ | refine blk_alloc ?_ _)); exact BK233.out) hg (Kd.R_ne HO_8.out BK233.out (by decide))); have n5_ := Aside0.mk ((by rw [hw]; exact below_set (HB.out) GB65.out : Below w.heap.size w w69)); clear HO_6; clear HO_8; clear BK231; clear BK232; clear BK233; clear HB; have HO_6 := n0_; have HO_8 := n1_; have BK231 := n2_; have BK232 := n3_; have BK233 := n4_; have HB := n5_; clear n0_ n1_ n2_ n3_ n4_ n5_; clear hg hw hp_; have hnb70 := NB231_232.out; have hnc70 := NB232_231.out; have hnb71 := NB231_233.out; have hnc71 := NB233_231.out; have hcz72_0 : w69.cell? ⟨gb231, 0, none⟩ = some (.int .i64 a0_0) := (blk_cell BK231.out 0).trans rfl; have hcz72_1 : w69.cell? ⟨gb231, 1, none⟩ = some (.int .i64 a0_1) := (blk_cell BK231.out 1).trans rfl; have hfz72_0 := blk_frozen BK231.out 0; have hfz72_1 := blk_frozen BK231.out 1; have hnb73 := NB232_233.out; have hnc73 := NB233_232.out; have hcz74_0 : w69.cell? ⟨gb232, 0, none⟩ = some (.int .i64 a1_0) := (blk_cell BK232.out 0).trans rfl; have hcz74_1 : w69.cell? ⟨gb232, 1, none⟩ = some (.int .i64 a1_1) := (blk_cell BK232.out 1).trans rfl; have hfz74_0 := blk_frozen BK232.out 0; have hfz74_1 := blk_frozen BK232.out 1) | ((with_reducible refine gate_callee (f := 34) rfl ?_); refine goesL_ (some 81) rfl rfl Tryd.func34 (by kernel_rfl) rfl #[.slice (some ⟨go65, 0, none⟩) y248.length co67, .int .i64 (wrap64 ((wrap64 (20 + a0_1)) - a1_1)), .bool ((decide (a0_0 < 0)) != (decide (a1_0 < 0)))] rfl (by (try simp only [List.map_toArray, List.map_cons, List.map_nil]); first | done | (rw [show y248.length = x8_2.length from (Kd.R_reads' HO_8.out).1.symm] <;> rfl) | rfl | (simp only [List.length_drop, List.length_take]; rfl)) ?_; (with_reducible refine (soffitref01_dec.calls k2 (fun k_ => some k_ = (.slice (some ⟨go65, 0, none⟩) x8_2.length co67 : Value).ownBlock) _ _ y248 (wrap64 ((wrap64 (20 + a0_1)) - a1_1)) ((decide (a0_0 < 0)) != (decide (a1_0 < 0))) t249 t250 t251 _ ?side1 A66.out).mono ?_); (case side1 => rw [show y248.length = x8_2.length from (Kd.R_reads' HO_8.out).1.symm]; exact Kd.R_V (Kd.R_tight rfl (Kd.R_types (Kd.R_types (Kd.R_types (HO_8.out) BK231.out (by decide)) BK232.out (by decide)) BK233.out (by decide)))); rintro e w75 ⟨rfl, hb⟩; refine ⟨_, rfl, ?_⟩; have n0_ := Aside0.mk (Kd.R_below (by (with_reducible repeat (first | apply Kd.R_alloc | apply Kd.R_drewN | apply Kd.R_drew)); exact HO_6.out) hb); have n1_ := Aside0.mk (Kd.R_below (by (with_reducible repeat (first | apply Kd.R_alloc | apply Kd.R_drewN | apply Kd.R_drew)); exact HO_8.out) hb); have n2_ := Aside0.mk (blk_below (g := gb231) (o := .cells #[.int .i64 a0_0, .int .i64 a0_1] 23 (0, 0)) (by (with_reducible repeat (first | refine blk_drewN ?_ _ | refine blk_drew ?_ | refine blk_alloc ?_ _)); exact BK231.out) hb); have n3_ := Aside0.mk (blk_below (g := gb232) (o := .cells #[.int .i64 a1_0, .int .i64 a1_1] 23 (0, 0)) (by (with_reducible repeat (first | refine blk_drewN ?_ _ | refine blk_drew ?_ | refine blk_alloc ?_ _)); exact BK232.out) hb); have n4_ := Aside0.mk (blk_below (g := gb233) (o := .cells #[.int .i64 0, .int .i64 0] 23 (0, 0)) (by (with_reducible repeat (first | refine blk_drewN ?_ _ | refine blk_drew ?_ | refine blk_alloc ?_ _)); exact BK233.out) hb); have n5_ := Aside0.mk (below_step (by repeat (first | (with_reducible first | exact HB.out | apply below_alloc | apply pw_below_drewN | apply below_drew1 | refine below_set ?_ GE231.out | refine below_set ?_ GE232.out | refine below_set ?_ GE233.out) | exact HB.out)) hb); clear HO_6; clear HO_8; clear BK231; clear BK232; clear BK233; clear HB; have HO_6 := n0_; have HO_8 := n1_; have BK231 := n2_; have BK232 := n3_; have BK233 := n4_; have HB := n5_; clear n0_ n1_ n2_ n3_ n4_ n5_; (try clear hb); (try clear hb2); (try clear hk); (try clear hi); have hcz76_0 : w75.cell? ⟨gb233, 0, none⟩ = some (.int .i64 0) := (blk_cell BK233.out 0).trans rfl; have hcz76_1 : w75.cell? ⟨gb233, 1, none⟩ = some (.int .i64 0) := (blk_cell BK233.out 1).trans rfl; have hfz76_0 := blk_frozen BK233.out 0; have hfz76_1 := blk_frozen BK233.out 1))
                        refine bodyPost_ret (results_ct rfl _ _ gb233 23 #[.int .i64 t249, .int .i64 t250] (0, 0) _ rfl (by (with_reducible repeat (first | refine blk_drewN ?_ _ | refine blk_drew ?_ | refine blk_alloc ?_ _)); refine blk_put (cs := #[.int .i64 t249, .int .i64 0]) ?_ 1 _ rfl; (with_reducible repeat (first | refine blk_drewN ?_ _ | refine blk_drew ?_ | refine blk_alloc ?_ _)); refine blk_put (cs := #[.int .i64 0, .int .i64 0]) ?_ 0 _ rfl; (with_reducible repeat (first | refine blk_drewN ?_ _ | refine blk_drew ?_ | refine blk_alloc ?_ _)); exact BK233.out) Tryd.underlying23 rfl (by kernel_rfl)) rfl ?_
                        exact ⟨by first | rfl | (simp [errW_none, errW_some] <;> rfl) | (simp [*, errW_none, errW_some] <;> rfl), by repeat (first | (with_reducible first | exact HB.out | apply below_alloc | apply pw_below_drewN | apply below_drew1 | refine below_set ?_ GE231.out | refine below_set ?_ GE232.out | refine below_set ?_ GE233.out) | exact HB.out)⟩
                      · rw [if_neg c64] at H
                        have c64b0 : ((rd x8_2 0) == 0) = false := beq_eq_false_iff_ne.mpr c64
                        have c64b1 : ((rd x8_2 0) != 0) = true := bne_iff_ne.mpr c64
                        replace H := Option.bind_eq_some_iff.mp H
                        obtain ⟨⟨t252, t253, t254⟩, A770, H⟩ := H
                        replace H : (some (t252, t253, t254)) = some (r1, r2, r3) := H
                        have A77 := Aside0.mk A770
                        clear A770
                        simp only [Option.some.injEq, Prod.mk.injEq] at H
                        obtain ⟨rfl, rfl, rfl⟩ := H
                        obtain ⟨Ao78, co78, eo78⟩ := Kd.R_slice HO_8.out
                        subst eo78
                        have p247 : 0 ≤ (0 : Int) := (by omega)
                        have q247 : 0 < (x8_2.length : Int) := of_decide_eq_true (by first | (with_reducible assumption) | assumption)
                        obtain ⟨ad247, e247, hx247_0⟩ := Kd.at_int (Kd.R_reads' HO_8.out).2.2 0 p247 q247
                        cases e247
                        have qi247 : (0 < x8_2.length) = True := eq_true (by omega)
                        (try rw [show ((0 : Int)).toNat = 0 from rfl] at hx247_0)
                        (try rw [Addr.add_zero'] at hx247_0)
                        replace p247 := eq_true p247
                        replace q247 := eq_true q247
                        have hnb79 := NB231_232.out
                        have hnc79 := NB232_231.out
                        have hnb80 := NB231_233.out
                        have hnc80 := NB233_231.out
                        have hcz81_0 : wr.cell? ⟨gb231, 0, none⟩ = some (.int .i64 a0_0) := (blk_cell BK231.out 0).trans rfl
                        have hcz81_1 : wr.cell? ⟨gb231, 1, none⟩ = some (.int .i64 a0_1) := (blk_cell BK231.out 1).trans rfl
                        have hfz81_0 := blk_frozen BK231.out 0
                        have hfz81_1 := blk_frozen BK231.out 1
                        have hnb82 := NB232_233.out
                        have hnc82 := NB233_232.out
                        have hcz83_0 : wr.cell? ⟨gb232, 0, none⟩ = some (.int .i64 a1_0) := (blk_cell BK232.out 0).trans rfl
                        have hcz83_1 : wr.cell? ⟨gb232, 1, none⟩ = some (.int .i64 a1_1) := (blk_cell BK232.out 1).trans rfl
                        have hfz83_0 := blk_frozen BK232.out 0
                        have hfz83_1 := blk_frozen BK232.out 1
                        go_wp2_with (first | ((with_reducible refine gate_callee (f := 34) rfl ?_); refine goesL_ (some 81) rfl rfl Tryd.func34 (by kernel_rfl) rfl #[.slice (some ad247) x8_2.length co78, .int .i64 (wrap64 ((wrap64 (20 + a0_1)) - a1_1)), .bool ((decide (a0_0 < 0)) != (decide (a1_0 < 0)))] rfl (by (try simp only [List.map_toArray, List.map_cons, List.map_nil]); first | done | rfl | (simp only [List.length_drop, List.length_take]; rfl)) ?_; (with_reducible refine (soffitref01_dec.calls k2 (fun k_ => some k_ = (.slice (some ad247) x8_2.length co78 : Value).ownBlock) _ _ x8_2 (wrap64 ((wrap64 (20 + a0_1)) - a1_1)) ((decide (a0_0 < 0)) != (decide (a1_0 < 0))) t252 t253 t254 _ ?side1 A77.out).mono ?_); (case side1 => exact Kd.R_V (Kd.R_tight rfl (Kd.R_types (Kd.R_types (Kd.R_types (HO_8.out) BK231.out (by decide)) BK232.out (by decide)) BK233.out (by decide)))); rintro e w84 ⟨rfl, hb⟩; refine ⟨_, rfl, ?_⟩; have n0_ := Aside0.mk (Kd.R_below (by (with_reducible repeat (first | apply Kd.R_alloc | apply Kd.R_drewN | apply Kd.R_drew)); exact HO_6.out) hb); have n1_ := Aside0.mk (Kd.R_below (by (with_reducible repeat (first | apply Kd.R_alloc | apply Kd.R_drewN | apply Kd.R_drew)); exact HO_8.out) hb); have n2_ := Aside0.mk (blk_below (g := gb231) (o := .cells #[.int .i64 a0_0, .int .i64 a0_1] 23 (0, 0)) (by (with_reducible repeat (first | refine blk_drewN ?_ _ | refine blk_drew ?_ | refine blk_alloc ?_ _)); exact BK231.out) hb); have n3_ := Aside0.mk (blk_below (g := gb232) (o := .cells #[.int .i64 a1_0, .int .i64 a1_1] 23 (0, 0)) (by (with_reducible repeat (first | refine blk_drewN ?_ _ | refine blk_drew ?_ | refine blk_alloc ?_ _)); exact BK232.out) hb); have n4_ := Aside0.mk (blk_below (g := gb233) (o := .cells #[.int .i64 0, .int .i64 0] 23 (0, 0)) (by (with_reducible repeat (first | refine blk_drewN ?_ _ | refine blk_drew ?_ | refine blk_alloc ?_ _)); exact BK233.out) hb); have n5_ := Aside0.mk (below_step (by repeat (first | (with_reducible first | exact HB.out | apply below_alloc | apply pw_below_drewN | apply below_drew1 | refine below_set ?_ GE231.out | refine below_set ?_ GE232.out | refine below_set ?_ GE233.out) | exact HB.out)) hb); clear HO_6; clear HO_8; clear BK231; clear BK232; clear BK233; clear HB; have HO_6 := n0_; have HO_8 := n1_; have BK231 := n2_; have BK232 := n3_; have BK233 := n4_; have HB := n5_; clear n0_ n1_ n2_ n3_ n4_ n5_; (try clear hb); (try clear hb2); (try clear hk); (try clear hi); have hcz85_0 : w84.cell? ⟨gb233, 0, none⟩ = some (.int .i64 0) := (blk_cell BK233.out 0).trans rfl; have hcz85_1 : w84.cell? ⟨gb233, 1, none⟩ = some (.int .i64 0) := (blk_cell BK233.out 1).trans rfl; have hfz85_0 := blk_frozen BK233.out 0; have hfz85_1 := blk_frozen BK233.out 1))
                        refine bodyPost_ret (results_ct rfl _ _ gb233 23 #[.int .i64 t252, .int .i64 t253] (0, 0) _ rfl (by (with_reducible repeat (first | refine blk_drewN ?_ _ | refine blk_drew ?_ | refine blk_alloc ?_ _)); refine blk_put (cs := #[.int .i64 t252, .int .i64 0]) ?_ 1 _ rfl; (with_reducible repeat (first | refine blk_drewN ?_ _ | refine blk_drew ?_ | refine blk_alloc ?_ _)); refine blk_put (cs := #[.int .i64 0, .int .i64 0]) ?_ 0 _ rfl; (with_reducible repeat (first | refine blk_drewN ?_ _ | refine blk_drew ?_ | refine blk_alloc ?_ _)); exact BK233.out) Tryd.underlying23 rfl (by kernel_rfl)) rfl ?_
                        exact ⟨by first | rfl | (simp [errW_none, errW_some] <;> rfl) | (simp [*, errW_none, errW_some] <;> rfl), by repeat (first | (with_reducible first | exact HB.out | apply below_alloc | apply pw_below_drewN | apply below_drew1 | refine below_set ?_ GE231.out | refine below_set ?_ GE232.out | refine below_set ?_ GE233.out) | exact HB.out)⟩
                    · rw [if_neg c63] at H
                      exact absurd H (by simp)
                  · rw [if_neg c62] at H
                    have c62b0 : decide (0 < x9_2) = false := decide_eq_false c62
                    clear c62
                    replace H := Option.bind_eq_some_iff.mp H
                    obtain ⟨⟨t255, t256, t257⟩, A860, H⟩ := H
                    replace H : (some (t255, t256, t257)) = some (r1, r2, r3) := H
                    have A86 := Aside0.mk A860
                    clear A860
                    simp only [Option.some.injEq, Prod.mk.injEq] at H
                    obtain ⟨rfl, rfl, rfl⟩ := H
                    have hnb87 := NB231_232.out
                    have hnc87 := NB232_231.out
                    have hnb88 := NB231_233.out
                    have hnc88 := NB233_231.out
                    have hcz89_0 : wr.cell? ⟨gb231, 0, none⟩ = some (.int .i64 a0_0) := (blk_cell BK231.out 0).trans rfl
                    have hcz89_1 : wr.cell? ⟨gb231, 1, none⟩ = some (.int .i64 a0_1) := (blk_cell BK231.out 1).trans rfl
                    have hfz89_0 := blk_frozen BK231.out 0
                    have hfz89_1 := blk_frozen BK231.out 1
                    have hnb90 := NB232_233.out
                    have hnc90 := NB233_232.out
                    have hcz91_0 : wr.cell? ⟨gb232, 0, none⟩ = some (.int .i64 a1_0) := (blk_cell BK232.out 0).trans rfl
                    have hcz91_1 : wr.cell? ⟨gb232, 1, none⟩ = some (.int .i64 a1_1) := (blk_cell BK232.out 1).trans rfl
                    have hfz91_0 := blk_frozen BK232.out 0
                    have hfz91_1 := blk_frozen BK232.out 1
                    obtain ⟨Ao92, co92, eo92⟩ := Kd.R_slice HO_8.out
                    subst eo92
                    go_wp2_with (first | ((with_reducible refine gate_callee (f := 34) rfl ?_); refine goesL_ (some 81) rfl rfl Tryd.func34 (by kernel_rfl) rfl #[.slice Ao92 x8_2.length co92, .int .i64 (wrap64 ((wrap64 (20 + a0_1)) - a1_1)), .bool ((decide (a0_0 < 0)) != (decide (a1_0 < 0)))] rfl (by (try simp only [List.map_toArray, List.map_cons, List.map_nil]); first | done | rfl | (simp only [List.length_drop, List.length_take]; rfl)) ?_; (with_reducible refine (soffitref01_dec.calls k2 (fun k_ => some k_ = (.slice Ao92 x8_2.length co92 : Value).ownBlock) _ _ x8_2 (wrap64 ((wrap64 (20 + a0_1)) - a1_1)) ((decide (a0_0 < 0)) != (decide (a1_0 < 0))) t255 t256 t257 _ ?side1 A86.out).mono ?_); (case side1 => exact Kd.R_V (Kd.R_tight rfl (Kd.R_types (Kd.R_types (Kd.R_types (HO_8.out) BK231.out (by decide)) BK232.out (by decide)) BK233.out (by decide)))); rintro e w93 ⟨rfl, hb⟩; refine ⟨_, rfl, ?_⟩; have n0_ := Aside0.mk (Kd.R_below (by (with_reducible repeat (first | apply Kd.R_alloc | apply Kd.R_drewN | apply Kd.R_drew)); exact HO_6.out) hb); have n1_ := Aside0.mk (Kd.R_below (by (with_reducible repeat (first | apply Kd.R_alloc | apply Kd.R_drewN | apply Kd.R_drew)); exact HO_8.out) hb); have n2_ := Aside0.mk (blk_below (g := gb231) (o := .cells #[.int .i64 a0_0, .int .i64 a0_1] 23 (0, 0)) (by (with_reducible repeat (first | refine blk_drewN ?_ _ | refine blk_drew ?_ | refine blk_alloc ?_ _)); exact BK231.out) hb); have n3_ := Aside0.mk (blk_below (g := gb232) (o := .cells #[.int .i64 a1_0, .int .i64 a1_1] 23 (0, 0)) (by (with_reducible repeat (first | refine blk_drewN ?_ _ | refine blk_drew ?_ | refine blk_alloc ?_ _)); exact BK232.out) hb); have n4_ := Aside0.mk (blk_below (g := gb233) (o := .cells #[.int .i64 0, .int .i64 0] 23 (0, 0)) (by (with_reducible repeat (first | refine blk_drewN ?_ _ | refine blk_drew ?_ | refine blk_alloc ?_ _)); exact BK233.out) hb); have n5_ := Aside0.mk (below_step (by repeat (first | (with_reducible first | exact HB.out | apply below_alloc | apply pw_below_drewN | apply below_drew1 | refine below_set ?_ GE231.out | refine below_set ?_ GE232.out | refine below_set ?_ GE233.out) | exact HB.out)) hb); clear HO_6; clear HO_8; clear BK231; clear BK232; clear BK233; clear HB; have HO_6 := n0_; have HO_8 := n1_; have BK231 := n2_; have BK232 := n3_; have BK233 := n4_; have HB := n5_; clear n0_ n1_ n2_ n3_ n4_ n5_; (try clear hb); (try clear hb2); (try clear hk); (try clear hi); have hcz94_0 : w93.cell? ⟨gb233, 0, none⟩ = some (.int .i64 0) := (blk_cell BK233.out 0).trans rfl; have hcz94_1 : w93.cell? ⟨gb233, 1, none⟩ = some (.int .i64 0) := (blk_cell BK233.out 1).trans rfl; have hfz94_0 := blk_frozen BK233.out 0; have hfz94_1 := blk_frozen BK233.out 1))
                    refine bodyPost_ret (results_ct rfl _ _ gb233 23 #[.int .i64 t255, .int .i64 t256] (0, 0) _ rfl (by (with_reducible repeat (first | refine blk_drewN ?_ _ | refine blk_drew ?_ | refine blk_alloc ?_ _)); refine blk_put (cs := #[.int .i64 t255, .int .i64 0]) ?_ 1 _ rfl; (with_reducible repeat (first | refine blk_drewN ?_ _ | refine blk_drew ?_ | refine blk_alloc ?_ _)); refine blk_put (cs := #[.int .i64 0, .int .i64 0]) ?_ 0 _ rfl; (with_reducible repeat (first | refine blk_drewN ?_ _ | refine blk_drew ?_ | refine blk_alloc ?_ _)); exact BK233.out) Tryd.underlying23 rfl (by kernel_rfl)) rfl ?_
                    exact ⟨by first | rfl | (simp [errW_none, errW_some] <;> rfl) | (simp [*, errW_none, errW_some] <;> rfl), by repeat (first | (with_reducible first | exact HB.out | apply below_alloc | apply pw_below_drewN | apply below_drew1 | refine below_set ?_ GE231.out | refine below_set ?_ GE232.out | refine below_set ?_ GE233.out) | exact HB.out)⟩
          · rw [if_neg c34] at H
            exact absurd H (by simp)
end Go.Proofs.YtgkemhgihbfmmaaDoor.PA
end
section
namespace Go.Proofs.YtgkemhgihbfmmaaDoor.PA
open Go.RowKit Go.Proofs.YtgkemhgihbfmmaaDoorW.PrintWords Go.Proofs.YtgkemhgihbfmmaaDoorW.PrintLast Go.Proofs.YtgkemhgihbfmmaaDoorW.PrintMore
attribute [local go_sem] max2_int min2_int max_two min_two max_three min_three max_four min_four
set_option linter.unusedVariables false
set_option linter.unusedSimpArgs false
attribute [local go_sem high] eqA23
def soffitlaw01_DeciDivides.f (k : Nat) (a0_0 : Int) (a0_1 : Int) (a1_0 : Int) (a1_1 : Int) : Option (Bool) := (deci_Div.f k a0_0 a0_1 a1_0 a1_1).bind fun bt260 => ((soffitref01_Div.f k a0_0 a0_1 a1_0 a1_1).bind fun bt264 => ((soffitlaw01_awake.f k).bind fun t268 => (if t268 = true then (if (bt260.1 == bt264.1 && (bt260.2.1 == bt264.2.1)) = true then (some (bt260.2.2 == bt264.2.2)) else (some false)) else (some false))))
theorem soffitlaw01_DeciDivides.mono : ∀ a0 a1 a2 a3 k, LeO (soffitlaw01_DeciDivides.f k a0 a1 a2 a3) (soffitlaw01_DeciDivides.f (k + 1) a0 a1 a2 a3) := by
  intro a0 a1 a2 a3 k
  unfold soffitlaw01_DeciDivides.f
  repeat' first
      | (with_reducible exact deci_Div.mono _ _ _ _ _)
      | (with_reducible exact soffitlaw01_awake.mono _)
      | (with_reducible exact soffitref01_Div.mono _ _ _ _ _)
      | (with_reducible exact LeO.refl _)
      | (with_reducible exact LeO.none _)
      | (with_reducible refine LeO.ite ?_ ?_)
      | (with_reducible refine LeO.bind ?_ (fun _ => ?_))
      | exact deci_Div.mono _ _ _ _ _
      | exact soffitlaw01_awake.mono _
      | exact soffitref01_Div.mono _ _ _ _ _
      | exact LeO.none _
      | refine LeO.ite ?_ ?_
      | refine LeO.bind ?_ (fun _ => ?_)
set_option maxHeartbeats 8000000 in
set_option maxRecDepth 100000 in
theorem soffitlaw01_DeciDivides.calls (k : Nat) (a0_0 : Int) (a0_1 : Int) (a1_0 : Int) (a1_1 : Int) (r : Bool) (w : World) (hT : Tabs w) (hr : r = true) (h : soffitlaw01_DeciDivides.f k a0_0 a0_1 a1_0 a1_1 = some r) :
    Calls Tryd.prog 4 #[.agg #[.int .i64 a0_0, .int .i64 a0_1], .agg #[.int .i64 a1_0, .int .i64 a1_1]] w fun e w' => e = .returned (.bool r) ∧ Below w.heap.size w w' := by
  have hu23 := Tryd.underlying23
  have HT := Aside0.mk hT
  clear hT
  have HR := Aside0.mk hr
  clear hr
  have HB := Aside0.mk (Below.refl w.heap.size w)
  have H : ((deci_Div.f k a0_0 a0_1 a1_0 a1_1).bind fun bt260 => ((soffitref01_Div.f k a0_0 a0_1 a1_0 a1_1).bind fun bt264 => ((soffitlaw01_awake.f k).bind fun t268 => (if t268 = true then (if (bt260.1 == bt264.1 && (bt260.2.1 == bt264.2.1)) = true then (some (bt260.2.2 == bt264.2.2)) else (some false)) else (some false))))) = some r := h
  clear h
  replace H := Option.bind_eq_some_iff.mp H
  obtain ⟨⟨t260, t261, t262⟩, A30, H⟩ := H
  replace H : ((soffitref01_Div.f k a0_0 a0_1 a1_0 a1_1).bind fun bt264 => ((soffitlaw01_awake.f k).bind fun t268 => (if t268 = true then (if (t260 == bt264.1 && (t261 == bt264.2.1)) = true then (some (t262 == bt264.2.2)) else (some false)) else (some false)))) = some r := H
  have A3 := Aside0.mk A30
  clear A30
  replace H := Option.bind_eq_some_iff.mp H
  obtain ⟨⟨t264, t265, t266⟩, A40, H⟩ := H
  replace H : ((soffitlaw01_awake.f k).bind fun t268 => (if t268 = true then (if (t260 == t264 && (t261 == t265)) = true then (some (t262 == t266)) else (some false)) else (some false))) = some r := H
  have A4 := Aside0.mk A40
  clear A40
  replace H := Option.bind_eq_some_iff.mp H
  obtain ⟨t268, A50, H⟩ := H
  replace H : (if t268 = true then (if (t260 == t264 && (t261 == t265)) = true then (some (t262 == t266)) else (some false)) else (some false)) = some r := H
  have A5 := Aside0.mk A50
  clear A50
  by_cases c6 : t268 = true
  · subst c6
    have H1 : (if (t260 == t264 && (t261 == t265)) = true then (some (t262 == t266)) else (some false)) = some r := by rw [if_pos rfl] at H; exact H
    clear H
    have H := H1
    clear H1
    by_cases c7 : (t260 == t264 && (t261 == t265)) = true
    · rw [if_pos c7] at H
      have c7b0 : (t260 == t264 && (t261 == t265)) = true := c7
      (try (have c7b1 : decide (t260 = t264 && (t261 == t265)) = true := by simpa using c7))
      (try (have c7b2 : (t260 == t264 && (t261 == t265)) = true := by simpa using c7))
      clear c7
      obtain rfl := Option.some.inj H
      go_enter Tryd.func4, Tryd.ntmps4
      go_wp2_with (first | ((with_reducible refine gate_dst (N := 2) rfl ?_); refine box_event ?hg (N := 2) ?hd (cs := #[.int .i64 a0_0, .int .i64 a0_1]) (t := 23) ?hr ?_; (case hd => rfl); (case hg => rfl); (case hr => first | (go_simp; done) | (go_simp; rfl)); intro gb258 hg w8 hbox hb; have n0_ := Aside0.mk (below_step (by repeat (first | (with_reducible first | exact HB.out | apply below_alloc | apply pw_below_drewN | apply below_drew1) | exact HB.out)) hb); have n1_ := Aside0.mk (hbox); have n2_ := Aside0.mk ((by rw [hg]; exact (below_size (by repeat (first | (with_reducible first | exact HB.out | apply below_alloc | apply pw_below_drewN | apply below_drew1) | exact HB.out))) : w.heap.size ≤ gb258)); have n3_ := Aside0.mk ((by rw [hg]; exact (below_size (by repeat (first | (with_reducible first | exact HB.out | apply below_alloc | apply pw_below_drewN | apply below_drew1) | exact HB.out))) : w.heap.size ≤ gb258)); clear HB; have HB := n0_; have BK258 := n1_; have GW258 := n2_; have GE258 := n3_; clear n0_ n1_ n2_ n3_; clear hb hbox hg) | ((with_reducible refine gate_dst (N := 3) rfl ?_); refine box_event ?hg (N := 3) ?hd (cs := #[.int .i64 a1_0, .int .i64 a1_1]) (t := 23) ?hr ?_; (case hd => rfl); (case hg => rfl); (case hr => first | (go_simp; done) | (go_simp; rfl)); intro gb259 hg w9 hbox hb; have n0_ := Aside0.mk (blk_below (g := gb258) (o := .cells #[.int .i64 a0_0, .int .i64 a0_1] 23 (0, 0)) (by (with_reducible repeat (first | refine blk_drewN ?_ _ | refine blk_drew ?_ | refine blk_alloc ?_ _)); exact BK258.out) hb); have n1_ := Aside0.mk (below_step (by repeat (first | (with_reducible first | exact HB.out | apply below_alloc | apply pw_below_drewN | apply below_drew1 | refine below_set ?_ GE258.out) | exact HB.out)) hb); have n2_ := Aside0.mk (hbox); have n3_ := Aside0.mk ((by rw [hg]; exact (below_size (by repeat (first | (with_reducible first | exact HB.out | apply below_alloc | apply pw_below_drewN | apply below_drew1 | refine below_set ?_ GE258.out) | exact HB.out))) : w.heap.size ≤ gb259)); have n4_ := Aside0.mk ((by rw [hg]; exact (below_size (by repeat (first | (with_reducible first | exact HB.out | apply below_alloc | apply pw_below_drewN | apply below_drew1 | refine below_set ?_ GE258.out) | exact HB.out))) : w.heap.size ≤ gb259)); have n5_ := Aside0.mk ((by rw [hg]; exact Nat.ne_of_lt (blk_lt (g := gb258) (o := .cells #[.int .i64 a0_0, .int .i64 a0_1] 23 (0, 0)) (by (with_reducible repeat (first | refine blk_drewN ?_ _ | refine blk_drew ?_ | refine blk_alloc ?_ _)); exact BK258.out)) : gb258 ≠ gb259)); have n6_ := Aside0.mk ((by rw [hg]; exact Nat.ne_of_gt (blk_lt (g := gb258) (o := .cells #[.int .i64 a0_0, .int .i64 a0_1] 23 (0, 0)) (by (with_reducible repeat (first | refine blk_drewN ?_ _ | refine blk_drew ?_ | refine blk_alloc ?_ _)); exact BK258.out)) : gb259 ≠ gb258)); clear BK258; clear HB; have BK258 := n0_; have HB := n1_; have BK259 := n2_; have GW259 := n3_; have GE259 := n4_; have NB258_259 := n5_; have NB259_258 := n6_; clear n0_ n1_ n2_ n3_ n4_ n5_ n6_; clear hb hbox hg; have hnb10 := NB258_259.out; have hnc10 := NB259_258.out; have hcz11_0 : w9.cell? ⟨gb258, 0, none⟩ = some (.int .i64 a0_0) := (blk_cell BK258.out 0).trans rfl; have hcz11_1 : w9.cell? ⟨gb258, 1, none⟩ = some (.int .i64 a0_1) := (blk_cell BK258.out 1).trans rfl; have hfz11_0 := blk_frozen BK258.out 0; have hfz11_1 := blk_frozen BK258.out 1; have hcz12_0 : w9.cell? ⟨gb259, 0, none⟩ = some (.int .i64 a1_0) := (blk_cell BK259.out 0).trans rfl; have hcz12_1 : w9.cell? ⟨gb259, 1, none⟩ = some (.int .i64 a1_1) := (blk_cell BK259.out 1).trans rfl; have hfz12_0 := blk_frozen BK259.out 0; have hfz12_1 := blk_frozen BK259.out 1) | ((with_reducible refine gate_callee (f := 14) rfl ?_); refine goesL_ (some 12) rfl rfl Tryd.func14 (by kernel_rfl) rfl #[.agg #[.int .i64 a0_0, .int .i64 a0_1], .agg #[.int .i64 a1_0, .int .i64 a1_1]] rfl (by (try simp only [List.map_toArray, List.map_cons, List.map_nil]); first | done | rfl | (simp only [List.length_drop, List.length_take]; rfl)) ?_; (with_reducible refine (deci_Div.calls k a0_0 a0_1 a1_0 a1_1 t260 t261 t262 _ A3.out).mono ?_); rintro e w13 ⟨rfl, hb⟩; refine ⟨_, rfl, ?_⟩; have n0_ := Aside0.mk (blk_below (g := gb258) (o := .cells #[.int .i64 a0_0, .int .i64 a0_1] 23 (0, 0)) (by (with_reducible repeat (first | refine blk_drewN ?_ _ | refine blk_drew ?_ | refine blk_alloc ?_ _)); exact BK258.out) hb); have n1_ := Aside0.mk (blk_below (g := gb259) (o := .cells #[.int .i64 a1_0, .int .i64 a1_1] 23 (0, 0)) (by (with_reducible repeat (first | refine blk_drewN ?_ _ | refine blk_drew ?_ | refine blk_alloc ?_ _)); exact BK259.out) hb); have n2_ := Aside0.mk (below_step (by repeat (first | (with_reducible first | exact HB.out | apply below_alloc | apply pw_below_drewN | apply below_drew1 | refine below_set ?_ GE258.out | refine below_set ?_ GE259.out) | exact HB.out)) hb); clear BK258; clear BK259; clear HB; have BK258 := n0_; have BK259 := n1_; have HB := n2_; clear n0_ n1_ n2_; (try clear hb); (try clear hb2); (try clear hk); (try clear hi)) | ((with_reducible refine gate_dst (N := 5) rfl ?_); refine box_event ?hg (N := 5) ?hd (cs := #[.int .i64 0, .int .i64 0]) (t := 23) ?hr ?_; (case hd => rfl); (case hg => rfl); (case hr => first | (go_simp; done) | (go_simp; rfl)); intro gb263 hg w14 hbox hb; have n0_ := Aside0.mk (blk_below (g := gb258) (o := .cells #[.int .i64 a0_0, .int .i64 a0_1] 23 (0, 0)) (by (with_reducible repeat (first | refine blk_drewN ?_ _ | refine blk_drew ?_ | refine blk_alloc ?_ _)); exact BK258.out) hb); have n1_ := Aside0.mk (blk_below (g := gb259) (o := .cells #[.int .i64 a1_0, .int .i64 a1_1] 23 (0, 0)) (by (with_reducible repeat (first | refine blk_drewN ?_ _ | refine blk_drew ?_ | refine blk_alloc ?_ _)); exact BK259.out) hb); have n2_ := Aside0.mk (below_step (by repeat (first | (with_reducible first | exact HB.out | apply below_alloc | apply pw_below_drewN | apply below_drew1 | refine below_set ?_ GE258.out | refine below_set ?_ GE259.out) | exact HB.out)) hb); have n3_ := Aside0.mk (hbox); have n4_ := Aside0.mk ((by rw [hg]; exact (below_size (by repeat (first | (with_reducible first | exact HB.out | apply below_alloc | apply pw_below_drewN | apply below_drew1 | refine below_set ?_ GE258.out | refine below_set ?_ GE259.out) | exact HB.out))) : w.heap.size ≤ gb263)); have n5_ := Aside0.mk ((by rw [hg]; exact (below_size (by repeat (first | (with_reducible first | exact HB.out | apply below_alloc | apply pw_below_drewN | apply below_drew1 | refine below_set ?_ GE258.out | refine below_set ?_ GE259.out) | exact HB.out))) : w.heap.size ≤ gb263)); have n6_ := Aside0.mk ((by rw [hg]; exact Nat.ne_of_lt (blk_lt (g := gb258) (o := .cells #[.int .i64 a0_0, .int .i64 a0_1] 23 (0, 0)) (by (with_reducible repeat (first | refine blk_drewN ?_ _ | refine blk_drew ?_ | refine blk_alloc ?_ _)); exact BK258.out)) : gb258 ≠ gb263)); have n7_ := Aside0.mk ((by rw [hg]; exact Nat.ne_of_gt (blk_lt (g := gb258) (o := .cells #[.int .i64 a0_0, .int .i64 a0_1] 23 (0, 0)) (by (with_reducible repeat (first | refine blk_drewN ?_ _ | refine blk_drew ?_ | refine blk_alloc ?_ _)); exact BK258.out)) : gb263 ≠ gb258)); have n8_ := Aside0.mk ((by rw [hg]; exact Nat.ne_of_lt (blk_lt (g := gb259) (o := .cells #[.int .i64 a1_0, .int .i64 a1_1] 23 (0, 0)) (by (with_reducible repeat (first | refine blk_drewN ?_ _ | refine blk_drew ?_ | refine blk_alloc ?_ _)); exact BK259.out)) : gb259 ≠ gb263)); have n9_ := Aside0.mk ((by rw [hg]; exact Nat.ne_of_gt (blk_lt (g := gb259) (o := .cells #[.int .i64 a1_0, .int .i64 a1_1] 23 (0, 0)) (by (with_reducible repeat (first | refine blk_drewN ?_ _ | refine blk_drew ?_ | refine blk_alloc ?_ _)); exact BK259.out)) : gb263 ≠ gb259)); clear BK258; clear BK259; clear HB; have BK258 := n0_; have BK259 := n1_; have HB := n2_; have BK263 := n3_; have GW263 := n4_; have GE263 := n5_; have NB258_263 := n6_; have NB263_258 := n7_; have NB259_263 := n8_; have NB263_259 := n9_; clear n0_ n1_ n2_ n3_ n4_ n5_ n6_ n7_ n8_ n9_; clear hb hbox hg; have hnb15 := NB263_258.out; have hnc15 := NB258_263.out; have hnb16 := NB263_259.out; have hnc16 := NB259_263.out; have hcz17_0 : w14.cell? ⟨gb263, 0, none⟩ = some (.int .i64 0) := (blk_cell BK263.out 0).trans rfl; have hcz17_1 : w14.cell? ⟨gb263, 1, none⟩ = some (.int .i64 0) := (blk_cell BK263.out 1).trans rfl; have hfz17_0 := blk_frozen BK263.out 0; have hfz17_1 := blk_frozen BK263.out 1; have hcz18_0 : w14.cell? ⟨gb258, 0, none⟩ = some (.int .i64 a0_0) := (blk_cell BK258.out 0).trans rfl; have hcz18_1 : w14.cell? ⟨gb258, 1, none⟩ = some (.int .i64 a0_1) := (blk_cell BK258.out 1).trans rfl; have hfz18_0 := blk_frozen BK258.out 0; have hfz18_1 := blk_frozen BK258.out 1; have hcz19_0 : w14.cell? ⟨gb259, 0, none⟩ = some (.int .i64 a1_0) := (blk_cell BK259.out 0).trans rfl; have hcz19_1 : w14.cell? ⟨gb259, 1, none⟩ = some (.int .i64 a1_1) := (blk_cell BK259.out 1).trans rfl; have hfz19_0 := blk_frozen BK259.out 0; have hfz19_1 := blk_frozen BK259.out 1) | ((with_reducible refine gate_callee (f := 15) rfl ?_); refine goesL_ (some 18) rfl rfl Tryd.func15 (by kernel_rfl) rfl #[.agg #[.int .i64 a0_0, .int .i64 a0_1], .agg #[.int .i64 a1_0, .int .i64 a1_1]] rfl (by (try simp only [List.map_toArray, List.map_cons, List.map_nil]); first | done | rfl | (simp only [List.length_drop, List.length_take]; rfl)) ?_; (with_reducible refine (soffitref01_Div.calls k a0_0 a0_1 a1_0 a1_1 t264 t265 t266 _ A4.out).mono ?_); rintro e w20 ⟨rfl, hb⟩; refine ⟨_, rfl, ?_⟩; have n0_ := Aside0.mk (blk_below (g := gb258) (o := .cells #[.int .i64 a0_0, .int .i64 a0_1] 23 (0, 0)) (by (with_reducible repeat (first | refine blk_drewN ?_ _ | refine blk_drew ?_ | refine blk_alloc ?_ _)); refine blk_far ?_ NB258_263.out _; (with_reducible repeat (first | refine blk_drewN ?_ _ | refine blk_drew ?_ | refine blk_alloc ?_ _)); refine blk_far ?_ NB258_263.out _; (with_reducible repeat (first | refine blk_drewN ?_ _ | refine blk_drew ?_ | refine blk_alloc ?_ _)); exact BK258.out) hb); have n1_ := Aside0.mk (blk_below (g := gb259) (o := .cells #[.int .i64 a1_0, .int .i64 a1_1] 23 (0, 0)) (by (with_reducible repeat (first | refine blk_drewN ?_ _ | refine blk_drew ?_ | refine blk_alloc ?_ _)); refine blk_far ?_ NB259_263.out _; (with_reducible repeat (first | refine blk_drewN ?_ _ | refine blk_drew ?_ | refine blk_alloc ?_ _)); refine blk_far ?_ NB259_263.out _; (with_reducible repeat (first | refine blk_drewN ?_ _ | refine blk_drew ?_ | refine blk_alloc ?_ _)); exact BK259.out) hb); have n2_ := Aside0.mk (blk_below (g := gb263) (o := .cells #[.int .i64 t260, .int .i64 t261] 23 (0, 0)) (by (with_reducible repeat (first | refine blk_drewN ?_ _ | refine blk_drew ?_ | refine blk_alloc ?_ _)); refine blk_put (cs := #[.int .i64 t260, .int .i64 0]) ?_ 1 _ rfl; (with_reducible repeat (first | refine blk_drewN ?_ _ | refine blk_drew ?_ | refine blk_alloc ?_ _)); refine blk_put (cs := #[.int .i64 0, .int .i64 0]) ?_ 0 _ rfl; (with_reducible repeat (first | refine blk_drewN ?_ _ | refine blk_drew ?_ | refine blk_alloc ?_ _)); exact BK263.out) hb); have n3_ := Aside0.mk (below_step (by repeat (first | (with_reducible first | exact HB.out | apply below_alloc | apply pw_below_drewN | apply below_drew1 | refine below_set ?_ GE258.out | refine below_set ?_ GE259.out | refine below_set ?_ GE263.out) | exact HB.out)) hb); clear BK258; clear BK259; clear BK263; clear HB; have BK258 := n0_; have BK259 := n1_; have BK263 := n2_; have HB := n3_; clear n0_ n1_ n2_ n3_; (try clear hb); (try clear hb2); (try clear hk); (try clear hi)) | ((with_reducible refine gate_dst (N := 7) rfl ?_); refine box_event ?hg (N := 7) ?hd (cs := #[.int .i64 0, .int .i64 0]) (t := 23) ?hr ?_; (case hd => rfl); (case hg => rfl); (case hr => first | (go_simp; done) | (go_simp; rfl)); intro gb267 hg w21 hbox hb; have n0_ := Aside0.mk (blk_below (g := gb258) (o := .cells #[.int .i64 a0_0, .int .i64 a0_1] 23 (0, 0)) (by (with_reducible repeat (first | refine blk_drewN ?_ _ | refine blk_drew ?_ | refine blk_alloc ?_ _)); exact BK258.out) hb); have n1_ := Aside0.mk (blk_below (g := gb259) (o := .cells #[.int .i64 a1_0, .int .i64 a1_1] 23 (0, 0)) (by (with_reducible repeat (first | refine blk_drewN ?_ _ | refine blk_drew ?_ | refine blk_alloc ?_ _)); exact BK259.out) hb); have n2_ := Aside0.mk (blk_below (g := gb263) (o := .cells #[.int .i64 t260, .int .i64 t261] 23 (0, 0)) (by (with_reducible repeat (first | refine blk_drewN ?_ _ | refine blk_drew ?_ | refine blk_alloc ?_ _)); exact BK263.out) hb); have n3_ := Aside0.mk (below_step (by repeat (first | (with_reducible first | exact HB.out | apply below_alloc | apply pw_below_drewN | apply below_drew1 | refine below_set ?_ GE258.out | refine below_set ?_ GE259.out | refine below_set ?_ GE263.out) | exact HB.out)) hb); have n4_ := Aside0.mk (hbox); have n5_ := Aside0.mk ((by rw [hg]; exact (below_size (by repeat (first | (with_reducible first | exact HB.out | apply below_alloc | apply pw_below_drewN | apply below_drew1 | refine below_set ?_ GE258.out | refine below_set ?_ GE259.out | refine below_set ?_ GE263.out) | exact HB.out))) : w.heap.size ≤ gb267)); have n6_ := Aside0.mk ((by rw [hg]; exact (below_size (by repeat (first | (with_reducible first | exact HB.out | apply below_alloc | apply pw_below_drewN | apply below_drew1 | refine below_set ?_ GE258.out | refine below_set ?_ GE259.out | refine below_set ?_ GE263.out) | exact HB.out))) : w.heap.size ≤ gb267)); have n7_ := Aside0.mk ((by rw [hg]; exact Nat.ne_of_lt (blk_lt (g := gb258) (o := .cells #[.int .i64 a0_0, .int .i64 a0_1] 23 (0, 0)) (by (with_reducible repeat (first | refine blk_drewN ?_ _ | refine blk_drew ?_ | refine blk_alloc ?_ _)); exact BK258.out)) : gb258 ≠ gb267)); have n8_ := Aside0.mk ((by rw [hg]; exact Nat.ne_of_gt (blk_lt (g := gb258) (o := .cells #[.int .i64 a0_0, .int .i64 a0_1] 23 (0, 0)) (by (with_reducible repeat (first | refine blk_drewN ?_ _ | refine blk_drew ?_ | refine blk_alloc ?_ _)); exact BK258.out)) : gb267 ≠ gb258)); have n9_ := Aside0.mk ((by rw [hg]; exact Nat.ne_of_lt (blk_lt (g := gb259) (o := .cells #[.int .i64 a1_0, .int .i64 a1_1] 23 (0, 0)) (by (with_reducible repeat (first | refine blk_drewN ?_ _ | refine blk_drew ?_ | refine blk_alloc ?_ _)); exact BK259.out)) : gb259 ≠ gb267)); have n10_ := Aside0.mk ((by rw [hg]; exact Nat.ne_of_gt (blk_lt (g := gb259) (o := .cells #[.int .i64 a1_0, .int .i64 a1_1] 23 (0, 0)) (by (with_reducible repeat (first | refine blk_drewN ?_ _ | refine blk_drew ?_ | refine blk_alloc ?_ _)); exact BK259.out)) : gb267 ≠ gb259)); have n11_ := Aside0.mk ((by rw [hg]; exact Nat.ne_of_lt (blk_lt (g := gb263) (o := .cells #[.int .i64 t260, .int .i64 t261] 23 (0, 0)) (by (with_reducible repeat (first | refine blk_drewN ?_ _ | refine blk_drew ?_ | refine blk_alloc ?_ _)); exact BK263.out)) : gb263 ≠ gb267)); have n12_ := Aside0.mk ((by rw [hg]; exact Nat.ne_of_gt (blk_lt (g := gb263) (o := .cells #[.int .i64 t260, .int .i64 t261] 23 (0, 0)) (by (with_reducible repeat (first | refine blk_drewN ?_ _ | refine blk_drew ?_ | refine blk_alloc ?_ _)); exact BK263.out)) : gb267 ≠ gb263)); clear BK258; clear BK259; clear BK263; clear HB; have BK258 := n0_; have BK259 := n1_; have BK263 := n2_; have HB := n3_; have BK267 := n4_; have GW267 := n5_; have GE267 := n6_; have NB258_267 := n7_; have NB267_258 := n8_; have NB259_267 := n9_; have NB267_259 := n10_; have NB263_267 := n11_; have NB267_263 := n12_; clear n0_ n1_ n2_ n3_ n4_ n5_ n6_ n7_ n8_ n9_ n10_ n11_ n12_; clear hb hbox hg; have hnb22 := NB267_258.out; have hnc22 := NB258_267.out; have hnb23 := NB267_259.out; have hnc23 := NB259_267.out; have hnb24 := NB267_263.out; have hnc24 := NB263_267.out; have hcz25_0 : w21.cell? ⟨gb267, 0, none⟩ = some (.int .i64 0) := (blk_cell BK267.out 0).trans rfl; have hcz25_1 : w21.cell? ⟨gb267, 1, none⟩ = some (.int .i64 0) := (blk_cell BK267.out 1).trans rfl; have hfz25_0 := blk_frozen BK267.out 0; have hfz25_1 := blk_frozen BK267.out 1) | ((with_reducible refine gate_callee (f := 11) rfl ?_); refine goesL_ (some 21) rfl rfl Tryd.func11 (by kernel_rfl) rfl #[] rfl (by (try simp only [List.map_toArray, List.map_cons, List.map_nil]); first | done | rfl | (simp only [List.length_drop, List.length_take]; rfl)) ?_; (with_reducible refine (soffitlaw01_awake.calls k  true _ ?side1 A5.out).mono ?_); (case side1 => exact tabs_of HT.out (by repeat (first | (with_reducible first | exact HB.out | apply below_alloc | apply pw_below_drewN | apply below_drew1 | refine below_set ?_ GE258.out | refine below_set ?_ GE259.out | refine below_set ?_ GE263.out | refine below_set ?_ GE267.out) | exact HB.out))); rintro e w26 ⟨rfl, hb⟩; refine ⟨_, rfl, ?_⟩; have n0_ := Aside0.mk (blk_below (g := gb258) (o := .cells #[.int .i64 a0_0, .int .i64 a0_1] 23 (0, 0)) (by (with_reducible repeat (first | refine blk_drewN ?_ _ | refine blk_drew ?_ | refine blk_alloc ?_ _)); refine blk_far ?_ NB258_267.out _; (with_reducible repeat (first | refine blk_drewN ?_ _ | refine blk_drew ?_ | refine blk_alloc ?_ _)); refine blk_far ?_ NB258_267.out _; (with_reducible repeat (first | refine blk_drewN ?_ _ | refine blk_drew ?_ | refine blk_alloc ?_ _)); exact BK258.out) hb); have n1_ := Aside0.mk (blk_below (g := gb259) (o := .cells #[.int .i64 a1_0, .int .i64 a1_1] 23 (0, 0)) (by (with_reducible repeat (first | refine blk_drewN ?_ _ | refine blk_drew ?_ | refine blk_alloc ?_ _)); refine blk_far ?_ NB259_267.out _; (with_reducible repeat (first | refine blk_drewN ?_ _ | refine blk_drew ?_ | refine blk_alloc ?_ _)); refine blk_far ?_ NB259_267.out _; (with_reducible repeat (first | refine blk_drewN ?_ _ | refine blk_drew ?_ | refine blk_alloc ?_ _)); exact BK259.out) hb); have n2_ := Aside0.mk (blk_below (g := gb263) (o := .cells #[.int .i64 t260, .int .i64 t261] 23 (0, 0)) (by (with_reducible repeat (first | refine blk_drewN ?_ _ | refine blk_drew ?_ | refine blk_alloc ?_ _)); refine blk_far ?_ NB263_267.out _; (with_reducible repeat (first | refine blk_drewN ?_ _ | refine blk_drew ?_ | refine blk_alloc ?_ _)); refine blk_far ?_ NB263_267.out _; (with_reducible repeat (first | refine blk_drewN ?_ _ | refine blk_drew ?_ | refine blk_alloc ?_ _)); exact BK263.out) hb); have n3_ := Aside0.mk (blk_below (g := gb267) (o := .cells #[.int .i64 t264, .int .i64 t265] 23 (0, 0)) (by (with_reducible repeat (first | refine blk_drewN ?_ _ | refine blk_drew ?_ | refine blk_alloc ?_ _)); refine blk_put (cs := #[.int .i64 t264, .int .i64 0]) ?_ 1 _ rfl; (with_reducible repeat (first | refine blk_drewN ?_ _ | refine blk_drew ?_ | refine blk_alloc ?_ _)); refine blk_put (cs := #[.int .i64 0, .int .i64 0]) ?_ 0 _ rfl; (with_reducible repeat (first | refine blk_drewN ?_ _ | refine blk_drew ?_ | refine blk_alloc ?_ _)); exact BK267.out) hb); have n4_ := Aside0.mk (below_step (by repeat (first | (with_reducible first | exact HB.out | apply below_alloc | apply pw_below_drewN | apply below_drew1 | refine below_set ?_ GE258.out | refine below_set ?_ GE259.out | refine below_set ?_ GE263.out | refine below_set ?_ GE267.out) | exact HB.out)) hb); clear BK258; clear BK259; clear BK263; clear BK267; clear HB; have BK258 := n0_; have BK259 := n1_; have BK263 := n2_; have BK267 := n3_; have HB := n4_; clear n0_ n1_ n2_ n3_ n4_; (try clear hb); (try clear hb2); (try clear hk); (try clear hi); have hcz27_0 : w26.cell? ⟨gb263, 0, none⟩ = some (.int .i64 t260) := (blk_cell BK263.out 0).trans rfl; have hcz27_1 : w26.cell? ⟨gb263, 1, none⟩ = some (.int .i64 t261) := (blk_cell BK263.out 1).trans rfl; have hfz27_0 := blk_frozen BK263.out 0; have hfz27_1 := blk_frozen BK263.out 1; have hcz28_0 : w26.cell? ⟨gb267, 0, none⟩ = some (.int .i64 t264) := (blk_cell BK267.out 0).trans rfl; have hcz28_1 : w26.cell? ⟨gb267, 1, none⟩ = some (.int .i64 t265) := (blk_cell BK267.out 1).trans rfl; have hfz28_0 := blk_frozen BK267.out 0; have hfz28_1 := blk_frozen BK267.out 1))
      go_ret
      exact ⟨by first | rfl | (simp [errW_none, errW_some] <;> rfl) | (simp [*, errW_none, errW_some] <;> rfl), by repeat (first | (with_reducible first | exact HB.out | apply below_alloc | apply pw_below_drewN | apply below_drew1 | refine below_set ?_ GE258.out | refine below_set ?_ GE259.out | refine below_set ?_ GE263.out | refine below_set ?_ GE267.out) | exact HB.out)⟩
    · rw [if_neg c7] at H
      have c7b0 : (t260 == t264 && (t261 == t265)) = false := by simpa using c7
      (try (have c7b1 : decide (t260 = t264 && (t261 == t265)) = false := by simpa using c7))
      (try (have c7b2 : (t260 == t264 && (t261 == t265)) = false := by simpa using c7))
      (try (have c7b3 : ¬ (t260 = t264 && (t261 == t265)) := by simpa using c7))
      clear c7
      exact absurd HR.out (by rw [← Option.some.inj H]; simp)
  · replace c6 := Bool.eq_false_iff.mpr c6
    subst c6
    have H1 : (some false) = some r := by rw [if_neg (show ¬ (false = true) by decide)] at H; exact H
    clear H
    have H := H1
    clear H1
    exact absurd HR.out (by rw [← Option.some.inj H]; simp)
end Go.Proofs.YtgkemhgihbfmmaaDoor.PA
end
section
namespace Go.Proofs.YtgkemhgihbfmmaaDoor.M
def sh : Nat → Int → Int × Int
  | 0, n => (n, 0)
  | s + 1, n => if n % 10 = 0 then sh s (n / 10) else (n, (s : Int) + 1)
theorem sh_zero (s : Nat) : sh s 0 = (0, 0) := by
  induction s with
  | zero => rfl
  | succ s ih => simp [sh, ih]
theorem sh_id (s : Nat) (n : Int) (h : s = 0 ∨ n % 10 ≠ 0) : sh s n = (n, (s : Int)) := by
  cases s with
  | zero => rfl
  | succ s =>
    have h' : ¬ n % 10 = 0 := by omega
    simp [sh, h']
theorem sh_neg (s : Nat) : ∀ n : Int, sh s (-n) = (-(sh s n).1, (sh s n).2) := by
  induction s with
  | zero => intro n; rfl
  | succ s ih =>
    intro n
    by_cases h : n % 10 = 0
    · have h2 : (-n) % 10 = 0 := by omega
      have h3 : (-n) / 10 = -(n / 10) := by omega
      simp only [sh, h, h2, if_true, h3, ih]
    · have h2 : ¬ (-n) % 10 = 0 := by omega
      simp only [sh, h, h2, if_false]
theorem sh_spec (s : Nat) : ∀ n : Int, ∃ t : Nat, t ≤ s ∧ (sh s n).2 = ((s - t : Nat) : Int) ∧ n = (sh s n).1 * 10 ^ t ∧ ((sh s n).2 = 0 ∨ (sh s n).1 % 10 ≠ 0) := by
  induction s with
  | zero => intro n; exact ⟨0, Nat.le_refl _, rfl, by simp [sh], .inl rfl⟩
  | succ s ih =>
    intro n
    by_cases h : n % 10 = 0
    · obtain ⟨t, h1, h2, h3, h4⟩ := ih (n / 10)
      refine ⟨t + 1, by omega, ?_, ?_, ?_⟩
      · simp only [sh, h, if_true]; rw [h2]; congr 1; omega
      · simp only [sh, h, if_true]
        have e : n = (n / 10) * 10 := by omega
        rw [Int.pow_succ, ← Int.mul_assoc, ← h3]; exact e
      · simp only [sh, h, if_true]; exact h4
    · refine ⟨0, Nat.zero_le _, ?_, ?_, ?_⟩
      · simp [sh, h]
      · simp [sh, h]
      · simp only [sh, h, if_false]; exact .inr h
theorem sh_nonneg (s : Nat) : ∀ n : Int, 0 ≤ n → 0 ≤ (sh s n).1 ∧ (sh s n).1 ≤ n := by
  induction s with
  | zero => intro n h; simp only [sh]; omega
  | succ s ih =>
    intro n h
    by_cases h1 : n % 10 = 0
    · have := ih (n / 10) (by omega)
      simp only [sh, h1, if_true]; omega
    · simp only [sh, h1, if_false]; omega
theorem sh_le (s : Nat) : ∀ n : Int, 0 ≤ (sh s n).2 ∧ (sh s n).2 ≤ s := by
  intro n; obtain ⟨t, h1, h2, _, _⟩ := sh_spec s n; rw [h2]; omega
theorem sh_pow (s t : Nat) (n : Int) : sh (s + t) (n * 10 ^ t) = sh s n := by
  induction t with
  | zero => simp
  | succ t ih =>
    have h1 : (n * 10 ^ (t + 1)) % 10 = 0 := by rw [Int.pow_succ, ← Int.mul_assoc]; exact Int.mul_emod_left _ _
    have h2 : (n * 10 ^ (t + 1)) / 10 = n * 10 ^ t := by rw [Int.pow_succ, ← Int.mul_assoc]; exact Int.mul_ediv_cancel _ (by decide)
    rw [← Nat.add_assoc]; simp only [sh, h1, if_true, h2, ih]
def decS (n : Int) (s : Nat) (m : Bool) : Int × Int × Int :=
  if 999999999999 < (sh s n).1 then (0, 0, 3) else (if m = true then -(sh s n).1 else (sh s n).1, (sh s n).2, 0)
theorem sh_big (s : Nat) : ∀ n : Int, s ≤ 6 → 999999999999 * 1000000 + 1000000 ≤ n → 999999999999 < (sh s n).1 := by
  intro n hs hn
  obtain ⟨t, h1, h2, h3, _⟩ := sh_spec s n
  have hp : (10 : Int) ^ t ≤ 1000000 := by
    have h : t ≤ 6 := by omega
    match t, h with
    | 0, _ | 1, _ | 2, _ | 3, _ | 4, _ | 5, _ | 6, _ => decide
  have hpos : 0 ≤ (10 : Int) ^ t := Int.pow_nonneg (by decide)
  false_or_by_contra
  have h4 : (sh s n).1 ≤ 999999999999 := by omega
  have h5 : 0 ≤ (sh s n).1 := (sh_nonneg s n (by omega)).1
  have h6 : (sh s n).1 * 10 ^ t ≤ 999999999999 * 1000000 := Int.mul_le_mul h4 hp hpos (by decide)
  omega
def Snd (n s : Int) : Prop := 0 ≤ s ∧ s ≤ 6 ∧ -999999999999 ≤ n ∧ n ≤ 999999999999 ∧ (s = 0 ∨ n % 10 ≠ 0)
instance (n s : Int) : Decidable (Snd n s) := by unfold Snd; infer_instance
def mk (n s : Int) : Int × Int × Int :=
  if s < 0 ∨ 6 < s ∨ 999999999999 < n ∨ n < -999999999999 then (0, 0, 3) else ((sh s.toNat n).1, (sh s.toNat n).2, 0)
theorem mk_sound (n s : Int) (h : Snd n s) : mk n s = (n, s, 0) := by
  obtain ⟨h0, h1, h2, h3, h4⟩ := h
  unfold mk; rw [if_neg (by omega)]
  rw [sh_id s.toNat n (by omega)]; simp only [Prod.mk.injEq, and_true, true_and]; omega
theorem mk_unsound (n s : Int) (h : ¬ Snd n s) : ¬ ((mk n s).2.2 = 0 ∧ (mk n s).1 = n ∧ (mk n s).2.1 = s) := by
  unfold mk
  by_cases h1 : s < 0 ∨ 6 < s ∨ 999999999999 < n ∨ n < -999999999999
  · rw [if_pos h1]; simp
  · rw [if_neg h1]
    rintro ⟨_, h2, h3⟩
    apply h
    refine ⟨by omega, by omega, by omega, by omega, ?_⟩
    obtain ⟨t, _, _, _, h4⟩ := sh_spec s.toNat n
    simp only at h2 h3
    rw [h2, h3] at h4; exact h4
theorem decS_sound (n : Int) (s : Nat) (m : Bool) (hn : 0 ≤ n) (hs : s ≤ 6) (h : (decS n s m).2.2 = 0) : Snd (decS n s m).1 (decS n s m).2.1 := by
  unfold decS at h ⊢
  by_cases h1 : 999999999999 < (sh s n).1
  · rw [if_pos h1] at h; simp at h
  · rw [if_neg h1]
    have h2 := sh_nonneg s n hn; have h3 := sh_le s n
    obtain ⟨t, _, _, _, h4⟩ := sh_spec s n
    exact ⟨h3.1, (by have := h3.2; simp only; omega), (by cases m <;> simp <;> omega), (by cases m <;> simp <;> omega), (by cases m <;> simp <;> omega)⟩
def rhe (v b : Int) : Int := if b < 2 * (v % b) ∨ (2 * (v % b) = b ∧ (v / b) % 2 = 1) then v / b + 1 else v / b
theorem rhe_one (v : Int) : rhe v 1 = v := by unfold rhe; rw [if_neg (by omega)]; omega
theorem rhe_nonneg (v b : Int) (hv : 0 ≤ v) (hb : 0 < b) : 0 ≤ rhe v b := by
  have := Int.ediv_nonneg hv (Int.le_of_lt hb); unfold rhe; split <;> omega
theorem rhe_mul (v b c : Int) (hb : 0 < b) (hc : 0 < c) : rhe (v * c) (b * c) = rhe v b := by
  unfold rhe
  have em : v * c % (b * c) = v % b * c := by rw [Int.mul_comm v c, Int.mul_comm b c, Int.mul_emod_mul_of_pos _ _ hc, Int.mul_comm]
  rw [Int.mul_ediv_mul_of_pos_left _ _ hc, em]
  · have e1 : (b * c < 2 * (v % b * c)) ↔ (b < 2 * (v % b)) := by
      rw [← Int.mul_assoc]; exact ⟨fun h => Int.lt_of_mul_lt_mul_right h (Int.le_of_lt hc), fun h => Int.mul_lt_mul_of_pos_right h hc⟩
    have e2 : (2 * (v % b * c) = b * c) ↔ (2 * (v % b) = b) := by
      rw [← Int.mul_assoc]; exact ⟨fun h => Int.eq_of_mul_eq_mul_right (by omega) h, fun h => by rw [h]⟩
    simp only [e1, e2]
theorem rhe_exact (q b : Int) (hb : 0 < b) : rhe (q * b) b = q := by
  unfold rhe; rw [Int.mul_emod_left, Int.mul_ediv_cancel _ (by omega), if_neg (by omega)]
def val : List Int → Int
  | [] => 0
  | d :: l => d + 10 * val l
def Dig (l : List Int) : Prop := ∀ d, d ∈ l → 0 ≤ d ∧ d ≤ 9
theorem Dig.cons {d : Int} {l : List Int} : Dig (d :: l) ↔ (0 ≤ d ∧ d ≤ 9) ∧ Dig l :=
  ⟨fun h => ⟨h d (List.mem_cons_self), fun x hx => h x (List.mem_cons_of_mem _ hx)⟩, fun h x hx => by
    rcases List.mem_cons.1 hx with rfl | hx
    · exact h.1
    · exact h.2 x hx⟩
theorem Dig.nil : Dig [] := fun _ h => by cases h
theorem Dig.drop {l : List Int} (h : Dig l) (k : Nat) : Dig (l.drop k) := fun d hd => h d (List.mem_of_mem_drop hd)
theorem Dig.take {l : List Int} (h : Dig l) (k : Nat) : Dig (l.take k) := fun d hd => h d (List.mem_of_mem_take hd)
theorem Dig.append {l m : List Int} (h : Dig l) (h' : Dig m) : Dig (l ++ m) := fun d hd => (List.mem_append.1 hd).elim (h d) (h' d)
theorem Dig.replicate (n : Nat) : Dig (List.replicate n 0) := fun d hd => by
  have := (List.mem_replicate.1 hd).2; omega
theorem val_nonneg {l : List Int} (h : Dig l) : 0 ≤ val l := by
  induction l with
  | nil => exact Int.le_refl _
  | cons d l ih => have := ih (Dig.cons.1 h).2; have := (Dig.cons.1 h).1; simp only [val]; omega
theorem val_lt {l : List Int} (h : Dig l) : val l < 10 ^ l.length := by
  induction l with
  | nil => decide
  | cons d l ih =>
    have h1 := ih (Dig.cons.1 h).2; have h2 := (Dig.cons.1 h).1
    simp only [val, List.length_cons, Int.pow_succ]; omega
theorem val_append (l m : List Int) : val (l ++ m) = val l + 10 ^ l.length * val m := by
  induction l with
  | nil => simp [val]
  | cons d l ih =>
    simp only [List.cons_append, val, ih, List.length_cons, Int.pow_succ, Int.mul_add]
    rw [Int.mul_comm (10 ^ l.length) 10, Int.mul_assoc]; omega
theorem val_replicate (n : Nat) : val (List.replicate n 0) = 0 := by
  induction n with
  | zero => rfl
  | succ n ih => simp [List.replicate_succ, val, ih]
theorem pow_pos (k : Nat) : (0 : Int) < 10 ^ k := Int.pow_pos (by decide)
theorem val_drop {l : List Int} (h : Dig l) (k : Nat) (hk : k ≤ l.length) : val (l.drop k) = val l / 10 ^ k ∧ val (l.take k) = val l % 10 ^ k := by
  have e := val_append (l.take k) (l.drop k)
  rw [List.take_append_drop] at e
  have hl : (l.take k).length = k := by rw [List.length_take]; omega
  rw [hl] at e
  have h1 := val_nonneg (h.take k); have h2 := val_lt (h.take k); rw [hl] at h2
  have hp := pow_pos k
  rw [e]
  constructor
  · rw [Int.add_mul_ediv_left _ _ (by omega), Int.ediv_eq_zero_of_lt h1 h2]; omega
  · rw [Int.add_mul_emod_self_left]; exact (Int.emod_eq_of_lt h1 h2).symm
def digs : Nat → Int → List Int
  | 0, _ => []
  | c + 1, n => n % 10 :: digs c (n / 10)
theorem digs_length (c : Nat) : ∀ n, (digs c n).length = c := by
  induction c with
  | zero => intro n; rfl
  | succ c ih => intro n; simp [digs, ih]
theorem digs_dig (c : Nat) : ∀ n, Dig (digs c n) := by
  induction c with
  | zero => intro n; exact Dig.nil
  | succ c ih => intro n; exact Dig.cons.2 ⟨by omega, ih _⟩
theorem digs_val (c : Nat) : ∀ n : Int, 0 ≤ n → n < 10 ^ c → val (digs c n) = n := by
  induction c with
  | zero => intro n h0 h1; simp at h1; simp [digs, val]; omega
  | succ c ih =>
    intro n h0 h1
    rw [Int.pow_succ] at h1
    have := ih (n / 10) (by omega) (by omega)
    simp only [digs, val, this]; omega
theorem digs_get (c : Nat) : ∀ (n : Int) (i : Nat), i < c → (digs c n).getD i 0 = n / 10 ^ i % 10 := by
  induction c with
  | zero => intro n i h; omega
  | succ c ih =>
    intro n i h
    cases i with
    | zero => simp [digs]
    | succ i =>
      have := ih (n / 10) i (by omega)
      simp only [digs, List.getD_cons_succ, this]
      rw [Int.ediv_ediv_of_nonneg (by decide), Int.pow_succ, Int.mul_comm]
def addc : Int → List Int → List Int → List Int
  | c, x :: xs, y :: ys => (x + y + c) % 10 :: addc ((x + y + c) / 10) xs ys
  | _, _, _ => []
theorem addc_length : ∀ (a b : List Int) (c : Int), a.length = b.length → (addc c a b).length = a.length
  | [], [], _, _ => rfl
  | x :: xs, y :: ys, c, h => by simp [addc, addc_length xs ys _ (by simpa using h)]
  | [], _ :: _, _, h => by simp at h
  | _ :: _, [], _, h => by simp at h
theorem addc_dig : ∀ (a b : List Int) (c : Int), Dig (addc c a b)
  | [], [], _ => Dig.nil
  | [], _ :: _, _ => Dig.nil
  | _ :: _, [], _ => Dig.nil
  | x :: xs, y :: ys, c => Dig.cons.2 ⟨by omega, addc_dig xs ys _⟩
theorem addc_val : ∀ (a b : List Int) (c : Int), a.length = b.length → val (addc c a b) = (val a + val b + c) % 10 ^ a.length
  | [], [], c, _ => by simp [addc, val]
  | [], _ :: _, _, h => by simp at h
  | _ :: _, [], _, h => by simp at h
  | x :: xs, y :: ys, c, h => by
    have ih := addc_val xs ys ((x + y + c) / 10) (by simpa using h)
    simp only [addc, val, ih, List.length_cons, Int.pow_succ]
    have hp := pow_pos xs.length
    generalize (10 : Int) ^ xs.length = P at hp ih ⊢
    have e : x + 10 * val xs + (y + 10 * val ys) + c = 10 * (val xs + val ys + (x + y + c) / 10) + (x + y + c) % 10 := by omega
    rw [e]
    generalize val xs + val ys + (x + y + c) / 10 = T
    have hr : 0 ≤ (x + y + c) % 10 ∧ (x + y + c) % 10 < 10 := by omega
    generalize (x + y + c) % 10 = r at hr ⊢
    have e2 : 10 * T + r = 10 * (T % P) + r + (P * 10) * (T / P) := by
      have := Int.emod_add_mul_ediv T P
      have e3 : P * 10 * (T / P) = 10 * (P * (T / P)) := by rw [Int.mul_comm P 10, Int.mul_assoc]
      rw [e3]; omega
    have h1 := Int.emod_nonneg T (Int.ne_of_gt hp); have h2 := Int.emod_lt_of_pos T hp
    rw [e2, Int.add_mul_emod_self_left]
    generalize T % P = m at h1 h2 ⊢
    rw [Int.emod_eq_of_lt (by omega) (by omega)]; omega
theorem rhe_digits (v : Int) (c : Nat) (hv : 0 ≤ v) :
    rhe v (10 ^ (c + 1)) = v / 10 ^ (c + 1) + (if 5 < v / 10 ^ c % 10 ∨ (v / 10 ^ c % 10 = 5 ∧ (0 < v % 10 ^ c ∨ v / 10 ^ (c + 1) % 10 % 2 = 1)) then 1 else 0) := by
  have hp := pow_pos c
  unfold rhe
  rw [Int.pow_succ]
  generalize (10 : Int) ^ c = P at hp ⊢
  have e1 : v % (P * 10) = v % P + P * (v / P % 10) := by
    have h1 := Int.emod_add_mul_ediv v P
    have h2 := Int.emod_add_mul_ediv (v / P) 10
    have h3 : v = (v % P + P * (v / P % 10)) + (P * 10) * (v / P / 10) := by
      have e : P * (v / P) = P * (v / P % 10) + P * 10 * (v / P / 10) := by
        rw [Int.mul_assoc, ← Int.mul_add, h2]
      omega
    have h4 := Int.emod_nonneg v (Int.ne_of_gt hp); have h5 := Int.emod_lt_of_pos v hp
    have h6 : 0 ≤ v / P % 10 ∧ v / P % 10 ≤ 9 := by omega
    have h7 : 0 ≤ P * (v / P % 10) := Int.mul_nonneg (by omega) h6.1
    have h8 : P * (v / P % 10) ≤ P * 9 := Int.mul_le_mul_of_nonneg_left h6.2 (by omega)
    have h9 : v % (P * 10) = ((v % P + P * (v / P % 10)) + (P * 10) * (v / P / 10)) % (P * 10) := by rw [← h3]
    rw [h9, Int.add_mul_emod_self_left, Int.emod_eq_of_lt (by omega) (by omega)]
  rw [e1]
  have h4 := Int.emod_nonneg v (Int.ne_of_gt hp); have h5 := Int.emod_lt_of_pos v hp
  have h6 : 0 ≤ v / P % 10 ∧ v / P % 10 ≤ 9 := by omega
  generalize v % P = L at h4 h5 ⊢
  generalize v / P % 10 = h at h6 ⊢
  have ee : v / (P * 10) % 10 % 2 = v / (P * 10) % 2 := by omega
  rw [ee]
  generalize v / (P * 10) = q
  have hh : P * h < P * 5 ∧ P * h ≤ P * 4 ∨ P * h = P * 5 ∧ h = 5 ∨ P * 6 ≤ P * h ∧ 5 < h := by
    rcases Int.lt_trichotomy h 5 with g | g | g
    · exact .inl ⟨Int.mul_lt_mul_of_pos_left g hp, Int.mul_le_mul_of_nonneg_left (by omega) (by omega)⟩
    · exact .inr (.inl ⟨by rw [g], g⟩)
    · exact .inr (.inr ⟨Int.mul_le_mul_of_nonneg_left (by omega) (by omega), g⟩)
  have hlt : P * h ≤ P * 4 → h < 5 := fun g => by
    false_or_by_contra
    have : P * 5 ≤ P * h := Int.mul_le_mul_of_nonneg_left (by omega) (by omega)
    omega
  generalize P * h = Ph at hh hlt ⊢
  rcases hh with ⟨g1, g2⟩ | ⟨g1, g2⟩ | ⟨g1, g2⟩
  · have := hlt g2; rw [if_neg (by omega), if_neg (by omega)]; omega
  · subst g1; subst g2
    by_cases g3 : 0 < L ∨ q % 2 = 1
    · rw [if_pos (by omega), if_pos (by omega)]
    · rw [if_neg (by omega), if_neg (by omega)]; omega
  · rw [if_pos (by omega), if_pos (by omega)]
theorem rhe_long (A by' V rest : Int) (c e : Nat) (hA : 0 ≤ A) (hb : 0 < by') (h : by' * V + rest = A * 10 ^ (c + 2 + e)) (h0 : 0 ≤ rest) (h1 : rest < by') :
    rhe (if 0 < rest ∧ V % 10 = 0 then V + 1 else V) (10 ^ (c + 2)) = rhe (A * 10 ^ e) by' := by
  have hC := pow_pos c
  have hM : A * 10 ^ (c + 2 + e) = (A * 10 ^ e) * (100 * 10 ^ c) := by
    rw [Int.pow_add, Int.pow_add]
    have e2 : (10 : Int) ^ 2 = 100 := by decide
    rw [e2]; ac_rfl
  have hP : (10 : Int) ^ (c + 2) = 100 * 10 ^ c := by
    rw [Int.pow_add]; have e2 : (10 : Int) ^ 2 = 100 := by decide
    rw [e2, Int.mul_comm]
  rw [hM] at h; rw [hP]
  have hm : 0 ≤ A * 10 ^ e := Int.mul_nonneg hA (Int.le_of_lt (pow_pos e))
  generalize (10 : Int) ^ c = C at hC h ⊢
  generalize A * 10 ^ e = m at hm h ⊢
  have hr0 := Int.emod_nonneg m (Int.ne_of_gt hb); have hr1 := Int.emod_lt_of_pos m hb
  have hme := Int.emod_add_mul_ediv m by'
  have hL : by' * (V - m / by' * (100 * C)) + rest = m % by' * (100 * C) := by
    have e1 : by' * (V - m / by' * (100 * C)) = by' * V - by' * (m / by') * (100 * C) := by rw [Int.mul_sub, Int.mul_assoc]
    have e2 : (m % by' + by' * (m / by')) * (100 * C) = m % by' * (100 * C) + by' * (m / by') * (100 * C) := Int.add_mul _ _ _
    rw [hme] at e2; omega
  generalize hq : m / by' = q at hL hme
  generalize hR : m % by' = R at hL hr0 hr1 hme
  generalize hLL : V - q * (100 * C) = L at hL
  have hV : V = L + 100 * C * q := by rw [Int.mul_comm (100 * C) q]; omega
  have hL0 : 0 ≤ L := by
    false_or_by_contra
    have h2 : by' * L ≤ by' * (-1) := Int.mul_le_mul_of_nonneg_left (by omega) (by omega)
    have h3 : 0 ≤ R * (100 * C) := Int.mul_nonneg hr0 (by omega)
    omega
  have hL1 : L < 100 * C := by
    false_or_by_contra
    have h2 : by' * (100 * C) ≤ by' * L := Int.mul_le_mul_of_nonneg_left (by omega) (by omega)
    have h3 : R * (100 * C) ≤ (by' - 1) * (100 * C) := Int.mul_le_mul_of_nonneg_right (by omega) (by omega)
    rw [Int.sub_mul] at h3
    omega
  have hmod : V % 10 = L % 10 := by rw [hV]; have : 100 * C * q = 10 * (10 * (C * q)) := by rw [Int.mul_assoc]; omega
                                    rw [this]; omega
  have hV2 : ∀ z : Int, 0 ≤ z → z < 100 * C → (z + 100 * C * q) / (100 * C) = q ∧ (z + 100 * C * q) % (100 * C) = z := by
    intro z h2 h3
    exact ⟨by rw [Int.add_mul_ediv_left _ _ (by omega), Int.ediv_eq_zero_of_lt h2 h3]; omega, by rw [Int.add_mul_emod_self_left]; exact Int.emod_eq_of_lt h2 h3⟩
  have hcmp1 : 50 * C < L → by' * (50 * C) + by' ≤ by' * L := fun g => by
    have h2 : by' * (50 * C + 1) ≤ by' * L := Int.mul_le_mul_of_nonneg_left (by omega) (by omega)
    rw [Int.mul_add] at h2; omega
  have hcmp2 : L < 50 * C → by' * L + by' ≤ by' * (50 * C) := fun g => by
    have h2 : by' * (L + 1) ≤ by' * (50 * C) := Int.mul_le_mul_of_nonneg_left (by omega) (by omega)
    rw [Int.mul_add] at h2; omega
  have hR2 : R * (100 * C) = 2 * R * (50 * C) := by rw [Int.mul_comm 2 R, Int.mul_assoc]; congr 1; omega
  rw [hR2] at hL
  have g1 : by' < 2 * R → by' * (50 * C) + 50 * C ≤ 2 * R * (50 * C) := fun g => by
    have h2 : (by' + 1) * (50 * C) ≤ 2 * R * (50 * C) := Int.mul_le_mul_of_nonneg_right (by omega) (by omega)
    rw [Int.add_mul] at h2; omega
  have g2 : 2 * R < by' → 2 * R * (50 * C) + 50 * C ≤ by' * (50 * C) := fun g => by
    have h2 : (2 * R + 1) * (50 * C) ≤ by' * (50 * C) := Int.mul_le_mul_of_nonneg_right (by omega) (by omega)
    rw [Int.add_mul] at h2; omega
  have g3 : 2 * R = by' → 2 * R * (50 * C) = by' * (50 * C) := fun g => by rw [g]
  unfold rhe
  rw [hq, hR, hmod]
  by_cases hs : 0 < rest ∧ L % 10 = 0
  · rw [if_pos hs]
    have hz := hV2 (L + 1) (by omega) (by omega)
    have ez : V + 1 = L + 1 + 100 * C * q := by omega
    rw [ez, hz.1, hz.2]
    rcases Int.lt_trichotomy L (50 * C) with k | k | k
    · have := hcmp2 k
      have k2 : 2 * R < by' ∨ 2 * R = by' ∨ by' < 2 * R := by omega
      rcases k2 with k2 | k2 | k2
      · rw [if_neg (by omega), if_neg (by omega)]
      · have := g3 k2; omega
      · have := g1 k2; omega
    · subst k
      have k2 : 2 * R < by' ∨ 2 * R = by' ∨ by' < 2 * R := by omega
      rcases k2 with k2 | k2 | k2
      · have := g2 k2; omega
      · have := g3 k2; omega
      · rw [if_pos (by omega), if_pos (by omega)]
    · have := hcmp1 k
      have k2 : 2 * R < by' ∨ 2 * R = by' ∨ by' < 2 * R := by omega
      rcases k2 with k2 | k2 | k2
      · have := g2 k2; omega
      · have := g3 k2; omega
      · rw [if_pos (by omega), if_pos (by omega)]
  · rw [if_neg hs]
    have hz := hV2 L hL0 hL1
    rw [hV, hz.1, hz.2]
    rcases Int.lt_trichotomy L (50 * C) with k | k | k
    · have := hcmp2 k
      have k2 : 2 * R < by' ∨ 2 * R = by' ∨ by' < 2 * R := by omega
      rcases k2 with k2 | k2 | k2
      · rw [if_neg (by omega), if_neg (by omega)]
      · have := g3 k2; omega
      · have := g1 k2; omega
    · subst k
      have hr : rest = 0 := by omega
      have k2 : 2 * R < by' ∨ 2 * R = by' ∨ by' < 2 * R := by omega
      rcases k2 with k2 | k2 | k2
      · have := g2 k2; omega
      · by_cases o : q % 2 = 1
        · rw [if_pos (by omega), if_pos (by omega)]
        · rw [if_neg (by omega), if_neg (by omega)]
      · have := g1 k2; omega
    · have := hcmp1 k
      have k2 : 2 * R < by' ∨ 2 * R = by' ∨ by' < 2 * R := by omega
      rcases k2 with k2 | k2 | k2
      · have := g2 k2; omega
      · have := g3 k2; omega
      · rw [if_pos (by omega), if_pos (by omega)]
end Go.Proofs.YtgkemhgihbfmmaaDoor.M
end
section
namespace Go.Proofs.YtgkemhgihbfmmaaDoor.PA
open Go.RowKit Go.Proofs.YtgkemhgihbfmmaaDoorW.PrintWords Go.Proofs.YtgkemhgihbfmmaaDoorW.PrintLast Go.Proofs.YtgkemhgihbfmmaaDoorW.PrintMore
open Go.Proofs.YtgkemhgihbfmmaaDoor.M
theorem w64 {x : Int} (h1 : -9223372036854775808 ≤ x) (h2 : x < 9223372036854775808) : wrap64 x = x := by unfold wrap64; omega
theorem wu64 {x : Int} (h1 : 0 ≤ x) (h2 : x < 18446744073709551616) : IntKind.u64.wrap x = x := by rw [IntKind.wrap_u64]; omega
theorem obs {α β : Type} (a : α) (f : α → Option β) : (some a).bind f = f a := by simp
theorem succ_of {k : Nat} (h : 0 < k) : ∃ m, k = m + 1 := ⟨k - 1, by omega⟩
theorem short_l0 (s : Nat) : ∀ (k : Nat) (n : Int), s < k → s ≤ 1000 → 0 ≤ n → n < 18446744073709551616 → deci_form_short.l0 k n s = some (sh s n) := by
  induction s with
  | zero =>
    intro k n hk _ _ _
    obtain ⟨k, rfl⟩ := succ_of (show 0 < k by omega)
    simp only [deci_form_short.l0]; rw [if_neg (by omega)]; rfl
  | succ s ih =>
    intro k n hk hs h0 h1
    obtain ⟨k, rfl⟩ := succ_of (show 0 < k by omega)
    simp only [deci_form_short.l0]
    rw [if_pos (by omega), Int.tmod_eq_emod_of_nonneg h0, Int.tdiv_eq_ediv_of_nonneg h0]
    by_cases h : n % 10 = 0
    · rw [if_pos h, wu64 (by omega) (by omega), w64 (by omega) (by omega), show ((s + 1 : Nat) : Int) - 1 = (s : Int) by omega, ih k (n / 10) (by omega) (by omega) (by omega) (by omega)]
      simp only [sh, h, if_true]
    · rw [if_neg h]; simp only [sh, h, if_false]; rfl
theorem dec_f {k : Nat} {n s : Int} {m : Bool} (hk : 8 ≤ k) (h0 : 0 ≤ n) (h1 : n < 18446744073709551616) (hs0 : 0 ≤ s) (hs : s ≤ 6) :
    deci_form_dec.f k n s m = some (decS n s.toNat m) := by
  obtain ⟨t, rfl⟩ := Int.eq_ofNat_of_zero_le hs0
  unfold deci_form_dec.f deci_form_short.f
  rw [short_l0 t k n (by omega) (by omega) h0 h1]
  simp only [Option.bind_some, Int.toNat_natCast]
  have hb := sh_nonneg t n h0
  unfold decS
  by_cases h : 999999999999 < (sh t n).1
  · rw [if_pos h, if_pos h]
  · rw [if_neg h, if_neg h, w64 (x := (sh t n).1) (by omega) (by omega), w64 (by omega) (by omega)]
    cases m <;> rfl
theorem mx_abs {n : Int} (h1 : -9223372036854775807 ≤ n) (h2 : n < 9223372036854775808) : IntKind.u64.wrap (mx n (wrap64 (-n))) = n.natAbs := by
  rw [w64 (by omega) (by omega)]; unfold mx
  split <;> (rw [wu64 (by omega) (by omega)]; omega)
theorem decS_mk (n s : Int) (h : ¬ (s < 0 ∨ 6 < s ∨ 999999999999 < n ∨ n < -999999999999)) : decS (n.natAbs : Int) s.toNat (decide (n < 0)) = mk n s := by
  unfold decS mk
  rw [if_neg h]
  have hb := sh_nonneg s.toNat (n.natAbs : Int) (by omega)
  rw [if_neg (by omega)]
  by_cases g : n < 0
  · have e : n = -((n.natAbs : Nat) : Int) := by omega
    simp only [g, decide_true, if_true]
    rw [e, sh_neg]; simp
  · have e : ((n.natAbs : Nat) : Int) = n := by omega
    simp only [g, decide_false, Bool.false_eq_true, if_false]
    rw [e]
theorem make_f {k : Nat} (hk : 10 ≤ k) (n s : Int) : deci_Make.f k n s = some (mk n s) := by
  have hj : ∀ b : Bool, b = decide (s < 0 ∨ 6 < s ∨ 999999999999 < n ∨ n < -999999999999) → deci_Make.j0 k n s b = some (mk n s) := by
    intro b hb
    obtain ⟨k, rfl⟩ := succ_of (show 0 < k by omega)
    simp only [deci_Make.j0]
    by_cases h : s < 0 ∨ 6 < s ∨ 999999999999 < n ∨ n < -999999999999
    · rw [if_pos (by rw [hb]; exact decide_eq_true h)]; unfold mk; rw [if_pos h]
    · rw [if_neg (by rw [hb, decide_eq_false h]; simp), mx_abs (by omega) (by omega), dec_f (by omega) (by omega) (by omega) (by omega) (by omega)]
      simp only [Option.bind_some]
      rw [decS_mk n s h]
  unfold deci_Make.f
  by_cases h1 : s < 0
  · rw [if_pos h1]; exact hj _ (decide_eq_true (by omega)).symm
  rw [if_neg h1]
  by_cases h2 : s > 6
  · rw [if_pos h2]; exact hj _ (decide_eq_true (by omega)).symm
  rw [if_neg h2]
  by_cases h3 : n > 999999999999
  · rw [if_pos h3]; exact hj _ (decide_eq_true (by omega)).symm
  rw [if_neg h3]
  exact hj _ (by rw [decide_eq_decide]; omega)
theorem refmake_l0 (s : Nat) : ∀ (k : Nat) (n : Int), s < k → s ≤ 1000 → -9223372036854775808 ≤ n → n < 9223372036854775808 → soffitref01_Make.l0 k n s = some ((sh s n).1, (sh s n).2, 0) := by
  induction s with
  | zero =>
    intro k n hk _ _ _
    obtain ⟨k, rfl⟩ := succ_of (show 0 < k by omega)
    simp only [soffitref01_Make.l0]; rw [if_neg (by omega)]; rfl
  | succ s ih =>
    intro k n hk hs h0 h1
    obtain ⟨k, rfl⟩ := succ_of (show 0 < k by omega)
    simp only [soffitref01_Make.l0]
    rw [if_pos (by omega)]
    have e : Int.tmod n 10 = 0 ↔ n % 10 = 0 := by
      constructor
      · intro h; have := Int.dvd_of_tmod_eq_zero h; omega
      · intro h; exact Int.tmod_eq_zero_of_dvd (by omega)
    by_cases h : n % 10 = 0
    · have hd : Int.tdiv n 10 = n / 10 := Int.tdiv_eq_ediv_of_dvd (by omega)
      rw [if_pos (e.2 h), hd, w64 (by omega) (by omega), w64 (by omega) (by omega), show ((s + 1 : Nat) : Int) - 1 = (s : Int) by omega, ih k (n / 10) (by omega) (by omega) (by omega) (by omega)]
      simp only [sh, h, if_true]
    · rw [if_neg (fun g => h (e.1 g))]; simp only [sh, h, if_false]; rfl
theorem refmake_f {k : Nat} (hk : 10 ≤ k) (n s : Int) : soffitref01_Make.f k n s = some (mk n s) := by
  have hj : ∀ b : Bool, b = decide (s < 0 ∨ 6 < s ∨ 999999999999 < n ∨ n < -999999999999) → soffitref01_Make.j0 k n s b = some (mk n s) := by
    intro b hb
    obtain ⟨k, rfl⟩ := succ_of (show 0 < k by omega)
    simp only [soffitref01_Make.j0]
    by_cases h : s < 0 ∨ 6 < s ∨ 999999999999 < n ∨ n < -999999999999
    · rw [if_pos (by rw [hb]; exact decide_eq_true h)]; unfold mk; rw [if_pos h]
    · rw [if_neg (by rw [hb, decide_eq_false h]; simp)]
      obtain ⟨t, rfl⟩ := Int.eq_ofNat_of_zero_le (show 0 ≤ s by omega)
      rw [refmake_l0 t k n (by omega) (by omega) (by omega) (by omega)]
      unfold mk; rw [if_neg h, Int.toNat_natCast]
  unfold soffitref01_Make.f
  by_cases h1 : s < 0
  · rw [if_pos h1]; exact hj _ (decide_eq_true (by omega)).symm
  rw [if_neg h1]
  by_cases h2 : s > 6
  · rw [if_pos h2]; exact hj _ (decide_eq_true (by omega)).symm
  rw [if_neg h2]
  by_cases h3 : n > 999999999999
  · rw [if_pos h3]; exact hj _ (decide_eq_true (by omega)).symm
  rw [if_neg h3]
  exact hj _ (by rw [decide_eq_decide]; omega)
theorem sound_f {k : Nat} (hk : 10 ≤ k) (n s : Int) : deci_Sound.f k n s = some (decide (Snd n s)) := by
  unfold deci_Sound.f
  rw [make_f hk]; simp only [Option.bind_some]
  by_cases h : Snd n s
  · rw [mk_sound n s h]; simp [h]
  · have hu := mk_unsound n s h
    by_cases e : (mk n s).2.2 = 0
    · rw [if_pos e]; simp only [h, decide_false, Option.some.injEq, Bool.and_eq_false_iff, beq_eq_false_iff_ne]
      by_cases e1 : (mk n s).1 = n
      · right; intro e2; exact hu ⟨e, e1, e2⟩
      · left; exact e1
    · rw [if_neg e]; simp [h]
theorem refsound_f {k : Nat} (hk : 10 ≤ k) (n s : Int) : soffitref01_Sound.f k n s = some (decide (Snd n s)) := by
  unfold soffitref01_Sound.f
  rw [refmake_f hk]; simp only [Option.bind_some]
  by_cases h : Snd n s
  · rw [mk_sound n s h]; simp [h]
  · have hu := mk_unsound n s h
    by_cases e : (mk n s).2.2 = 0
    · rw [if_pos e]
      by_cases e1 : (mk n s).1 = n
      · rw [if_pos e1]; simp only [h, decide_false, Option.some.injEq, beq_eq_false_iff_ne]
        intro e2; exact hu ⟨e, e1, e2⟩
      · rw [if_neg e1]; simp [h]
    · rw [if_neg e]; simp [h]
theorem all_one {k : Nat} (hk : 15 ≤ k) (n s : Int) : deci_all.f k [⟨n, s⟩] = some (if Snd n s then 0 else 2) := by
  obtain ⟨k, rfl⟩ : ∃ m, k = m + 2 := ⟨k - 2, by omega⟩
  unfold deci_all.f
  simp only [deci_all.l0, List.length_singleton]
  have e0 : rd_T23 [(⟨n, s⟩ : S23)] 0 = ⟨n, s⟩ := rfl
  rw [if_pos (by decide), if_pos (by decide), if_pos (by decide), e0, sound_f (by omega)]
  simp only [Option.bind_some, decide_eq_true_eq]
  by_cases h : Snd n s
  · rw [if_pos h, if_pos h, if_neg (by rw [w64 (by decide) (by decide)]; decide)]
  · rw [if_neg h, if_neg h]
theorem all_two {k : Nat} (hk : 15 ≤ k) (n s n' s' : Int) : deci_all.f k [⟨n, s⟩, ⟨n', s'⟩] = some (if Snd n s ∧ Snd n' s' then 0 else 2) := by
  obtain ⟨k, rfl⟩ : ∃ m, k = m + 3 := ⟨k - 3, by omega⟩
  have w1 : wrap64 (0 + 1) = 1 := w64 (by decide) (by decide)
  have w2 : wrap64 (1 + 1) = 2 := w64 (by decide) (by decide)
  unfold deci_all.f
  simp only [deci_all.l0, List.length_cons, List.length_nil, w1, w2]
  have e0 : rd_T23 [(⟨n, s⟩ : S23), ⟨n', s'⟩] 0 = ⟨n, s⟩ := rfl
  have e1 : rd_T23 [(⟨n, s⟩ : S23), ⟨n', s'⟩] 1 = ⟨n', s'⟩ := rfl
  rw [if_pos (by decide), if_pos (by decide), if_pos (by decide), e0, sound_f (by omega)]
  simp only [Option.bind_some, decide_eq_true_eq]
  by_cases h : Snd n s
  · rw [if_pos h, if_pos (by decide), if_pos (by decide), if_pos (by decide), e1, sound_f (by omega)]
    simp only [Option.bind_some, decide_eq_true_eq]
    by_cases h' : Snd n' s'
    · rw [if_pos h', if_neg (by decide)]; simp only [h, h', and_self, if_true]
    · rw [if_neg h']; simp only [h, h', and_false, if_false]
  · rw [if_neg h]; simp only [h, false_and, if_false]
theorem size_f {n s : Int} (h : Snd n s) : deci_size.f n s = some (n.natAbs : Int) := by
  obtain ⟨_, _, h1, h2, _⟩ := h
  unfold deci_size.f; rw [mx_abs (by omega) (by omega)]
theorem power_l0 (d : Nat) : ∀ (k i : Nat), d < k → i + d ≤ 18 → deci_power.l0 k (10 ^ i) ((i + d : Nat) : Int) (i : Int) = some (10 ^ (i + d)) := by
  have hp : ∀ j : Nat, j ≤ 18 → (10 : Int) ^ j ≤ 1000000000000000000 := fun j h => by
    have h1 : (10 : Int) ^ 18 = 10 ^ j * 10 ^ (18 - j) := by rw [← Int.pow_add]; congr 1; omega
    have h2 := pow_pos j; have h3 := pow_pos (18 - j)
    have h4 : 10 ^ j * 1 ≤ (10 : Int) ^ j * 10 ^ (18 - j) := Int.mul_le_mul_of_nonneg_left (by omega) (by omega)
    have h5 : (10 : Int) ^ 18 = 1000000000000000000 := by decide
    omega
  induction d with
  | zero =>
    intro k i hk hi
    obtain ⟨k, rfl⟩ := succ_of (show 0 < k by omega)
    simp only [deci_power.l0]; rw [if_neg (by omega)]; simp
  | succ d ih =>
    intro k i hk hi
    obtain ⟨k, rfl⟩ := succ_of (show 0 < k by omega)
    simp only [deci_power.l0]
    have h1 := hp (i + 1) (by omega); have h2 := pow_pos (i + 1)
    rw [if_pos (by omega), ← Int.pow_succ, wu64 (by omega) (by omega), w64 (by omega) (by omega)]
    have := ih k (i + 1) (by omega) (by omega)
    rw [show ((i + 1 : Nat) : Int) = (i : Int) + 1 by omega, show i + 1 + d = i + (d + 1) by omega] at this
    exact this
theorem power_f {k : Nat} (hk : 20 ≤ k) {n : Int} (h0 : 0 ≤ n) (h1 : n ≤ 18) : deci_power.f k n = some (10 ^ n.toNat) := by
  obtain ⟨t, rfl⟩ := Int.eq_ofNat_of_zero_le h0
  have := power_l0 t k 0 (by omega) (by omega)
  simp only [Nat.zero_add, Int.pow_zero] at this
  unfold deci_power.f; rw [Int.toNat_natCast]; exact this
end Go.Proofs.YtgkemhgihbfmmaaDoor.PA
end
section
namespace Go.Proofs.YtgkemhgihbfmmaaDoor.PA
open Go.RowKit Go.Proofs.YtgkemhgihbfmmaaDoorW.PrintWords Go.Proofs.YtgkemhgihbfmmaaDoorW.PrintLast Go.Proofs.YtgkemhgihbfmmaaDoorW.PrintMore
open Go.Proofs.YtgkemhgihbfmmaaDoor.M
theorem bits_or_nat (a b : Nat) (ha : a < 18446744073709551616) (hb : b < 18446744073709551616) : Go.bits .or .u64 (a : Int) (b : Int) = ((a ||| b : Nat) : Int) := by
  have h1 : (BitVec.ofInt 64 (a : Int)).toNat = a := by rw [BitVec.ofInt_natCast, BitVec.toNat_ofNat]; exact Nat.mod_eq_of_lt ha
  have h2 : (BitVec.ofInt 64 (b : Int)).toNat = b := by rw [BitVec.ofInt_natCast, BitVec.toNat_ofNat]; exact Nat.mod_eq_of_lt hb
  have h3 : Go.bits .or .u64 (a : Int) (b : Int) = IntKind.u64.wrap ((BitVec.ofInt 64 (a : Int) ||| BitVec.ofInt 64 (b : Int)).toNat) := rfl
  rw [h3, BitVec.toNat_or, h1, h2]
  have h4 : a ||| b < 2 ^ 64 := Nat.or_lt_two_pow (by omega) (by omega)
  exact wu64 (by omega) (by omega)
structure Guess (Y a b U u q r : Int) : Prop where
  hY : Y = a * 4294967296 + b
  ha : 2147483648 ≤ a
  ha' : a < 4294967296
  hb : 0 ≤ b
  hb' : b < 4294967296
  hU : 0 ≤ U
  hU' : U < Y
  hu : 0 ≤ u
  hu' : u < 4294967296
  hq : q * a + r = U
  hr : 0 ≤ r
  hr' : r < 4294967296
  hge : (U * 4294967296 + u) / Y ≤ q
theorem Guess.pos {Y a b U u q r : Int} (g : Guess Y a b U u q r) : 0 < Y := by have := g.hY; have := g.ha; have := g.hb; omega
theorem Guess.q0 {Y a b U u q r : Int} (g : Guess Y a b U u q r) : 0 ≤ (U * 4294967296 + u) / Y ∧ (U * 4294967296 + u) / Y < 4294967296 := by
  have hp := g.pos
  constructor
  · exact Int.ediv_nonneg (by have := g.hU; have := g.hu; omega) (Int.le_of_lt hp)
  · apply Int.ediv_lt_of_lt_mul hp
    have := g.hU'; have := g.hu'; omega
theorem Guess.qle {Y a b U u q r : Int} (g : Guess Y a b U u q r) : 0 ≤ q ∧ q ≤ 4294967297 := by
  have h0 := g.q0; have hge := g.hge
  refine ⟨by omega, ?_⟩
  false_or_by_contra
  have h1 : 4294967298 * a ≤ q * a := Int.mul_le_mul_of_nonneg_right (by omega) (by have := g.ha; omega)
  have := g.hq; have := g.hr; have := g.hU'; have := g.hY; have := g.ha; have := g.hb'
  omega
theorem Guess.test {Y a b U u q r : Int} (g : Guess Y a b U u q r) (hq : q < 4294967296) :
    (r * 4294967296 + u < q * b ↔ (U * 4294967296 + u) / Y < q) ∧ 0 ≤ q * b ∧ q * b < 18446744073709551616 := by
  have h0 := g.qle
  have e : q * Y = (q * a) * 4294967296 + q * b := by rw [g.hY, Int.mul_add, Int.mul_assoc]
  have h1 : 0 ≤ q * b := Int.mul_nonneg h0.1 g.hb
  have h2 : q * b ≤ 4294967295 * b := Int.mul_le_mul_of_nonneg_right (by omega) g.hb
  have := g.hb'
  refine ⟨?_, h1, by omega⟩
  have hqq := g.hq
  have h3 : (U * 4294967296 + u) / Y < q ↔ U * 4294967296 + u < q * Y := Int.ediv_lt_iff_lt_mul g.pos
  rw [h3, e]
  generalize q * a = qa at hqq ⊢
  generalize q * b = qb at *
  omega
theorem Guess.back {Y a b U u q r : Int} (g : Guess Y a b U u q r) (h : (U * 4294967296 + u) / Y < q) :
    (4294967296 ≤ r + a → q - 1 = (U * 4294967296 + u) / Y) ∧ (r + a < 4294967296 → Guess Y a b U u (q - 1) (r + a)) := by
  have hqq := g.hq
  have e1 : (q - 1) * a + (r + a) = U := by rw [Int.sub_mul]; omega
  constructor
  · intro hr
    have h0 := g.q0
    have hql := g.qle
    have h1 : (q - 1) * b ≤ 4294967296 * b := Int.mul_le_mul_of_nonneg_right (by omega) g.hb
    have e : (q - 1) * Y = ((q - 1) * a) * 4294967296 + (q - 1) * b := by rw [g.hY, Int.mul_add, Int.mul_assoc]
    have h2 : (q - 1) * Y ≤ U * 4294967296 + u := by
      rw [e]
      have := g.hb'; have := g.hu
      generalize (q - 1) * a = qa at e1 ⊢
      generalize (q - 1) * b = qb at *
      omega
    have h3 : q - 1 ≤ (U * 4294967296 + u) / Y := (Int.le_ediv_iff_mul_le g.pos).2 h2
    omega
  · intro hr
    exact ⟨g.hY, g.ha, g.ha', g.hb, g.hb', g.hU, g.hU', g.hu, g.hu', e1, by have := g.hr; have := g.ha; omega, hr, by omega⟩
theorem Guess.mkk {Y a b U u : Int} (hY : Y = a * 4294967296 + b) (ha : 2147483648 ≤ a) (ha' : a < 4294967296) (hb : 0 ≤ b) (hb' : b < 4294967296) (hU : 0 ≤ U) (hU' : U < Y) (hu : 0 ≤ u) (hu' : u < 4294967296) :
    Guess Y a b U u (U / a) (U - U / a * a) := by
  have hm := Int.emod_add_mul_ediv U a
  have e : U - U / a * a = U % a := by rw [Int.mul_comm]; omega
  have h1 := Int.emod_nonneg U (show a ≠ 0 by omega); have h2 := Int.emod_lt_of_pos U (show 0 < a by omega)
  refine ⟨hY, ha, ha', hb, hb', hU, hU', hu, hu', by omega, by omega, by omega, ?_⟩
  have hp : 0 < Y := by omega
  have h3 : (U * 4294967296 + u) / Y < U / a + 1 := by
    rw [Int.ediv_lt_iff_lt_mul hp, hY]
    have e2 : (U / a + 1) * (a * 4294967296 + b) = (a * (U / a) + a) * 4294967296 + (U / a + 1) * b := by
      rw [Int.mul_add, ← Int.mul_assoc, Int.add_mul (U / a) 1 a, Int.mul_comm (U / a) a]; omega
    have h4 : 0 ≤ (U / a + 1) * b := Int.mul_nonneg (by have := Int.ediv_nonneg hU (show 0 ≤ a by omega); omega) hb
    rw [e2]
    generalize a * (U / a) = p at *
    generalize (U / a + 1) * b = p2 at *
    omega
  omega
theorem div_l0 (Y s a b U u un0 : Int) (K0 : Nat) (R : Int × Int) (h : ∀ k, K0 ≤ k → bits_Div64.j2 k Y s a b U u un0 ((U * 4294967296 + u) / Y) = some R) (m : Nat) :
    ∀ (k : Nat) (q r : Int), K0 + 2 * m + 2 ≤ k → 4294967296 - r ≤ (m : Int) * 2147483648 → Guess Y a b U u q r → bits_Div64.l0 k Y s a b U u un0 q r = some R := by
  induction m with
  | zero => intro k q r _ hm g; have := g.hr'; omega
  | succ m ih =>
    intro k q r hk hm g
    obtain ⟨k, rfl⟩ : ∃ j, k = j + 2 := ⟨k - 2, by omega⟩
    have hql := g.qle; have h0 := g.q0; have hr := g.hr; have hr' := g.hr'; have ha := g.ha; have ha' := g.ha'; have hu := g.hu; have hu' := g.hu'
    have step : ∀ t : Bool, (t = true ↔ (U * 4294967296 + u) / Y < q) → bits_Div64.j1 (k + 1) Y s a b U u un0 q r t = some R := by
      intro t ht
      simp only [bits_Div64.j1]
      by_cases hlt : (U * 4294967296 + u) / Y < q
      · have hb := g.back hlt
        rw [if_pos (ht.2 hlt), wu64 (x := r + a) (by omega) (by omega), wu64 (x := q - 1) (by omega) (by omega)]
        by_cases hbr : r + a ≥ 4294967296
        · rw [if_pos hbr, hb.1 hbr]; exact h k (by omega)
        · rw [if_neg hbr]; exact ih k (q - 1) (r + a) (by omega) (by omega) (hb.2 (by omega))
      · rw [if_neg (fun e => hlt (ht.1 e))]
        have e : q = (U * 4294967296 + u) / Y := by have := g.hge; omega
        rw [e]; exact h k (by omega)
    show bits_Div64.l0 (k + 1 + 1) Y s a b U u un0 q r = some R
    simp only [bits_Div64.l0]
    by_cases hq : q ≥ 4294967296
    · rw [if_pos hq]; exact step true ⟨fun _ => by omega, fun _ => rfl⟩
    · rw [if_neg hq]
      have ht := g.test (by omega)
      refine step _ ?_
      rw [wu64 (x := q * b) ht.2.1 ht.2.2, wu64 (x := 4294967296 * r) (by omega) (by omega), wu64 (by omega) (by omega), decide_eq_true_eq, ← ht.1]
      constructor <;> (intro g; omega)
theorem div_l1 (Y s a b u q1 U : Int) (hs : 0 ≤ s) (m : Nat) :
    ∀ (k : Nat) (q r : Int), 2 * m + 2 ≤ k → 4294967296 - r ≤ (m : Int) * 2147483648 → Guess Y a b U u q r →
      bits_Div64.l1 k Y s a b u q1 r U q = some (IntKind.u64.wrap (IntKind.u64.wrap (q1 * 4294967296) + (U * 4294967296 + u) / Y), shr .u64 (IntKind.u64.wrap (IntKind.u64.wrap (IntKind.u64.wrap (U * 4294967296) + u) - IntKind.u64.wrap ((U * 4294967296 + u) / Y * Y))) s) := by
  induction m with
  | zero => intro k q r _ hm g; have := g.hr'; omega
  | succ m ih =>
    intro k q r hk hm g
    obtain ⟨k, rfl⟩ : ∃ j, k = j + 2 := ⟨k - 2, by omega⟩
    have hql := g.qle; have h0 := g.q0; have hr := g.hr; have hr' := g.hr'; have ha := g.ha; have ha' := g.ha'; have hu := g.hu; have hu' := g.hu'
    have step : ∀ t : Bool, (t = true ↔ (U * 4294967296 + u) / Y < q) → bits_Div64.j4 (k + 1) Y s a b u q1 r U q t = some (IntKind.u64.wrap (IntKind.u64.wrap (q1 * 4294967296) + (U * 4294967296 + u) / Y), shr .u64 (IntKind.u64.wrap (IntKind.u64.wrap (IntKind.u64.wrap (U * 4294967296) + u) - IntKind.u64.wrap ((U * 4294967296 + u) / Y * Y))) s) := by
      intro t ht
      simp only [bits_Div64.j4]
      by_cases hlt : (U * 4294967296 + u) / Y < q
      · have hb := g.back hlt
        rw [if_pos (ht.2 hlt), wu64 (x := r + a) (by omega) (by omega), wu64 (x := q - 1) (by omega) (by omega)]
        by_cases hbr : r + a ≥ 4294967296
        · rw [if_pos hbr, if_pos hs, hb.1 hbr]
        · rw [if_neg hbr]; exact ih k (q - 1) (r + a) (by omega) (by omega) (hb.2 (by omega))
      · rw [if_neg (fun e => hlt (ht.1 e)), if_pos hs]
        have e : q = (U * 4294967296 + u) / Y := by have := g.hge; omega
        rw [← e]
    show bits_Div64.l1 (k + 1 + 1) Y s a b u q1 r U q = _
    simp only [bits_Div64.l1]
    by_cases hq : q ≥ 4294967296
    · rw [if_pos hq]; exact step true ⟨fun _ => by omega, fun _ => rfl⟩
    · rw [if_neg hq]
      have ht := g.test (by omega)
      refine step _ ?_
      rw [wu64 (x := q * b) ht.2.1 ht.2.2, wu64 (x := 4294967296 * r) (by omega) (by omega), wu64 (by omega) (by omega), decide_eq_true_eq, ← ht.1]
      constructor <;> (intro g; omega)
theorem left_over {U u Y : Int} (hU : 0 ≤ U) (hu : 0 ≤ u) (hY : 0 < Y) (hY' : Y < 18446744073709551616) :
    IntKind.u64.wrap (IntKind.u64.wrap (IntKind.u64.wrap (U * 4294967296) + u) - IntKind.u64.wrap ((U * 4294967296 + u) / Y * Y)) = (U * 4294967296 + u) % Y := by
  have h1 := Int.emod_nonneg (U * 4294967296 + u) (Int.ne_of_gt hY)
  have h2 := Int.emod_lt_of_pos (U * 4294967296 + u) hY
  have h3 := Int.emod_add_mul_ediv (U * 4294967296 + u) Y
  rw [Int.mul_comm Y] at h3
  rw [IntKind.wrap_u64, IntKind.wrap_u64, IntKind.wrap_u64, IntKind.wrap_u64]
  generalize (U * 4294967296 + u) / Y * Y = p at h3 ⊢
  generalize (U * 4294967296 + u) % Y = m at h1 h2 h3 ⊢
  omega
theorem div_f0 {k : Nat} {hi lo y s : Int} (hk : 30 ≤ k) (hs0 : 0 ≤ s) (hs1 : s ≤ 63) (hy : 0 < y) (hY0 : 9223372036854775808 ≤ y * 2 ^ s.toNat) (hY1 : y * 2 ^ s.toNat < 18446744073709551616)
    (hh : 0 < hi) (hhy : hi < y) (hl : 0 ≤ lo) (hl' : lo < 18446744073709551616) :
    bits_Div64.l0 k (y * 2 ^ s.toNat) s (y * 2 ^ s.toNat / 4294967296) (y * 2 ^ s.toNat % 4294967296) ((hi * 18446744073709551616 + lo) * 2 ^ s.toNat / 18446744073709551616)
      ((hi * 18446744073709551616 + lo) * 2 ^ s.toNat % 18446744073709551616 / 4294967296) ((hi * 18446744073709551616 + lo) * 2 ^ s.toNat % 4294967296)
      ((hi * 18446744073709551616 + lo) * 2 ^ s.toNat / 18446744073709551616 / (y * 2 ^ s.toNat / 4294967296))
      ((hi * 18446744073709551616 + lo) * 2 ^ s.toNat / 18446744073709551616 - (hi * 18446744073709551616 + lo) * 2 ^ s.toNat / 18446744073709551616 / (y * 2 ^ s.toNat / 4294967296) * (y * 2 ^ s.toNat / 4294967296)) =
    some ((hi * 18446744073709551616 + lo) / y, (hi * 18446744073709551616 + lo) % y) := by
  have hS : (0 : Int) < 2 ^ s.toNat := Int.pow_pos (by decide)
  have hV : (hi * 18446744073709551616 + lo) * 2 ^ s.toNat < 18446744073709551616 * (y * 2 ^ s.toNat) := by
    have h1 : (hi * 18446744073709551616 + lo) * 2 ^ s.toNat < (18446744073709551616 * y) * 2 ^ s.toNat := Int.mul_lt_mul_of_pos_right (by omega) hS
    rw [Int.mul_assoc] at h1; exact h1
  have hV0 : 0 ≤ (hi * 18446744073709551616 + lo) * 2 ^ s.toNat := Int.mul_nonneg (by omega) (by omega)
  have hVv : 0 ≤ hi * 18446744073709551616 + lo := by omega
  have hdv : (hi * 18446744073709551616 + lo) * 2 ^ s.toNat / (y * 2 ^ s.toNat) = (hi * 18446744073709551616 + lo) / y := Int.mul_ediv_mul_of_pos_left _ _ hS
  have hmv : (hi * 18446744073709551616 + lo) * 2 ^ s.toNat % (y * 2 ^ s.toNat) = (hi * 18446744073709551616 + lo) % y * 2 ^ s.toNat := by
    rw [Int.mul_comm _ (2 ^ s.toNat), Int.mul_comm y, Int.mul_emod_mul_of_pos _ _ hS, Int.mul_comm]
  have hmlt := Int.emod_lt_of_pos (hi * 18446744073709551616 + lo) hy
  have hm0 := Int.emod_nonneg (hi * 18446744073709551616 + lo) (Int.ne_of_gt hy)
  have hd0 := Int.ediv_nonneg hVv (Int.le_of_lt hy)
  have hd1 : (hi * 18446744073709551616 + lo) / y < 18446744073709551616 := by
    apply Int.ediv_lt_of_lt_mul hy
    have : hi * 18446744073709551616 + lo < 18446744073709551616 * y := by omega
    omega
  generalize hVg : (hi * 18446744073709551616 + lo) * 2 ^ s.toNat = V at *
  generalize hYg : y * 2 ^ s.toNat = Y at *
  generalize hUg : V / 18446744073709551616 = U at *
  have e1 : V = U * 18446744073709551616 + V % 18446744073709551616 := by omega
  generalize hu1 : V % 18446744073709551616 / 4294967296 = u1 at *
  generalize hu0 : V % 4294967296 = u0 at *
  have e2 : V % 18446744073709551616 = u1 * 4294967296 + u0 := by omega
  have hUY : U < Y := by omega
  have G1 := Guess.mkk (Y := Y) (a := Y / 4294967296) (b := Y % 4294967296) (U := U) (u := u1) (by omega) (by omega) (by omega) (by omega) (by omega) (by omega) hUY (by omega) (by omega)
  have hW1 := Int.emod_nonneg (U * 4294967296 + u1) (show Y ≠ 0 by omega)
  have hW2 := Int.emod_lt_of_pos (U * 4294967296 + u1) (show 0 < Y by omega)
  have hWe := Int.emod_add_mul_ediv (U * 4294967296 + u1) Y
  have hQ1 := G1.q0
  have hlo := left_over (U := U) (u := u1) (Y := Y) (by omega) (by omega) (by omega) hY1
  generalize hWg : (U * 4294967296 + u1) % Y = W at *
  have G2 := Guess.mkk (Y := Y) (a := Y / 4294967296) (b := Y % 4294967296) (U := W) (u := u0) (by omega) (by omega) (by omega) (by omega) (by omega) hW1 hW2 (by omega) (by omega)
  have hlo2 := left_over (U := W) (u := u0) (Y := Y) hW1 (by omega) (by omega) hY1
  have hQ2 := G2.q0
  have hX1 := Int.emod_nonneg (W * 4294967296 + u0) (show Y ≠ 0 by omega)
  have hX2 := Int.emod_lt_of_pos (W * 4294967296 + u0) (show 0 < Y by omega)
  have hXe := Int.emod_add_mul_ediv (W * 4294967296 + u0) Y
  have hVq : V = Y * ((U * 4294967296 + u1) / Y * 4294967296 + (W * 4294967296 + u0) / Y) + (W * 4294967296 + u0) % Y := by
    rw [Int.mul_add, ← Int.mul_assoc]; omega
  have hq : V / Y = (U * 4294967296 + u1) / Y * 4294967296 + (W * 4294967296 + u0) / Y := by
    rw [hVq, Int.add_comm, Int.add_mul_ediv_left _ _ (by omega), Int.ediv_eq_zero_of_lt hX1 hX2]; omega
  have hr : V % Y = (W * 4294967296 + u0) % Y := by
    rw [hVq, Int.add_comm, Int.add_mul_emod_self_left]; exact Int.emod_eq_of_lt hX1 hX2
  have h2 : ∀ k, 7 ≤ k → bits_Div64.j2 k Y s (Y / 4294967296) (Y % 4294967296) U u1 u0 ((U * 4294967296 + u1) / Y) = some ((hi * 18446744073709551616 + lo) / y, (hi * 18446744073709551616 + lo) % y) := by
    intro k hk
    obtain ⟨k, rfl⟩ := succ_of (show 0 < k by omega)
    simp only [bits_Div64.j2]
    have hWa : Int.tdiv W (Y / 4294967296) = W / (Y / 4294967296) := Int.tdiv_eq_ediv_of_nonneg hW1
    have hq2 := G2.qle
    have hrr := G2.hr; have hrr' := G2.hr'
    have hp : 0 ≤ W / (Y / 4294967296) * (Y / 4294967296) := Int.mul_nonneg hq2.1 (by omega)
    rw [if_neg (by omega), hlo, hWa, wu64 (x := W / (Y / 4294967296)) (by omega) (by omega), wu64 (x := W / (Y / 4294967296) * (Y / 4294967296)) hp (by omega), wu64 (by omega) (by omega)]
    rw [div_l1 Y s _ _ u0 _ W hs0 2 k _ _ (by omega) (by omega) G2, hlo2, ← hr, hmv, wu64 (x := (U * 4294967296 + u1) / Y * 4294967296) (by omega) (by omega), ← hq, hdv, wu64 hd0 hd1]
    unfold shr
    have e64 : min s.toNat IntKind.u64.bits = s.toNat := Nat.min_eq_left (by show s.toNat ≤ 64; omega)
    rw [e64, Int.mul_ediv_cancel _ (by omega)]
  exact div_l0 Y s _ _ U u1 u0 7 _ h2 2 k _ _ (by omega) (by have := G1.hr; omega) G1
theorem div_f {k : Nat} {hi lo y : Int} (hk : 30 ≤ k) (hh : 0 ≤ hi) (hhy : hi < y) (hy' : y < 18446744073709551616) (hl : 0 ≤ lo) (hl' : lo < 18446744073709551616) :
    bits_Div64.f k hi lo y = some ((hi * 18446744073709551616 + lo) / y, (hi * 18446744073709551616 + lo) % y) := by
  unfold bits_Div64.f
  rw [if_neg (by omega), if_neg (by omega)]
  by_cases h0 : hi = 0
  · subst h0
    have h1 := Int.ediv_nonneg hl (show 0 ≤ y by omega)
    have h2 : lo / y ≤ lo := Int.ediv_le_self _ hl
    rw [if_pos rfl, Int.tdiv_eq_ediv_of_nonneg hl, Int.tmod_eq_emod_of_nonneg hl, wu64 h1 (by omega)]
    simp
  rw [if_neg h0]
  unfold bits_LeadingZeros64.f
  rw [if_pos ⟨by omega, hy'⟩]
  simp only [Option.bind_some]
  have hbl := Lib.bitLenAux_bounds 64 y.toNat (by omega) (by omega)
  have hble : Lib.bitLenAux 64 y.toNat ≤ 64 := by
    false_or_by_contra
    have h2 : (2 : Nat) ^ 64 ≤ 2 ^ (Lib.bitLenAux 64 y.toNat - 1) := Nat.pow_le_pow_right (by decide) (by omega)
    omega
  have hle : Lib.bitLen y.toNat = Lib.bitLenAux 64 y.toNat := rfl
  rw [hle]
  generalize Lib.bitLenAux 64 y.toNat = n at hbl hble ⊢
  obtain ⟨s, hs⟩ : ∃ s : Nat, 64 = n + s := ⟨64 - n, by omega⟩
  have e1 : (64 : Int) - (n : Int) = (s : Int) := by omega
  have e3 : IntKind.u64.wrap ((64 : Int) - (n : Int)) = (s : Int) := by rw [e1, wu64 (by omega) (by omega)]
  have e2 : IntKind.u64.wrap (64 - (s : Int)) = (n : Int) := by rw [wu64 (by omega) (by omega)]; omega
  rw [e3, e2, if_pos (by omega), if_pos (by omega)]
  have hSp : (0 : Int) < 2 ^ s := Int.pow_pos (by decide)
  have hSN : (2 : Nat) ^ 64 = 2 ^ n * 2 ^ s := by rw [← Nat.pow_add, ← hs]
  have hNN : (2 : Nat) ^ n = 2 ^ (n - 1) * 2 := by rw [← Nat.pow_succ]; congr 1; omega
  have c1 : ((2 ^ s : Nat) : Int) = (2 : Int) ^ s := by rw [Int.natCast_pow]; rfl
  have hyS : y.toNat * 2 ^ s < 2 ^ 64 := by rw [hSN]; exact Nat.mul_lt_mul_of_pos_right hbl.2.2 (Nat.pow_pos (by decide))
  have hyS2 : 2 ^ 63 ≤ y.toNat * 2 ^ s := by
    have h1 : 2 ^ (n - 1) * 2 ^ s ≤ y.toNat * 2 ^ s := Nat.mul_le_mul_right _ hbl.2.1
    have h2 : 2 ^ (n - 1) * 2 ^ s * 2 = 2 ^ 64 := by rw [hSN, hNN]; ac_rfl
    omega
  have cy : ((y.toNat * 2 ^ s : Nat) : Int) = y * 2 ^ s := by rw [Int.natCast_mul, c1]; congr 1; omega
  have hyI1 : y * 2 ^ s < 18446744073709551616 := by omega
  have hyI2 : 9223372036854775808 ≤ y * 2 ^ s := by omega
  have hshl : ∀ x : Int, shl .u64 x (s : Int) = (x * 2 ^ s) % 18446744073709551616 := by
    intro x; unfold shl; rw [IntKind.wrap_u64, Int.toNat_natCast]
    have e64 : min s IntKind.u64.bits = s := Nat.min_eq_left (by show s ≤ 64; omega)
    rw [e64]
  have hshr : shr .u64 lo (n : Int) = lo / 2 ^ n := by
    unfold shr; rw [Int.toNat_natCast]
    have e64 : min n IntKind.u64.bits = n := Nat.min_eq_left (by show n ≤ 64; omega)
    rw [e64]
  have hSI : (18446744073709551616 : Int) = 2 ^ n * 2 ^ s := by rw [← Int.pow_add, ← hs]; decide
  have hNp : (0 : Int) < 2 ^ n := Int.pow_pos (by decide)
  rw [hshl, hshl, hshl, hshr, Int.emod_eq_of_lt (a := y * 2 ^ s) (by omega) hyI1]
  have hhS : hi * 2 ^ s < 18446744073709551616 := by
    have : hi * 2 ^ s < y * 2 ^ s := Int.mul_lt_mul_of_pos_right hhy hSp
    omega
  have hhS0 : 0 ≤ hi * 2 ^ s := Int.mul_nonneg hh (by omega)
  rw [Int.emod_eq_of_lt hhS0 hhS]
  have hlS : lo / 2 ^ n < 2 ^ s := by
    apply Int.ediv_lt_of_lt_mul hNp; rw [Int.mul_comm, ← hSI]; exact hl'
  have hlS0 : 0 ≤ lo / 2 ^ n := Int.ediv_nonneg hl (by omega)
  have hor : Go.bits .or .u64 (hi * 2 ^ s) (lo / 2 ^ n) = hi * 2 ^ s + lo / 2 ^ n := by
    obtain ⟨b, hb⟩ := Int.eq_ofNat_of_zero_le hlS0
    obtain ⟨h', hh'⟩ := Int.eq_ofNat_of_zero_le hh
    have hb2 : b < 2 ^ s := by omega
    have cc : hi * 2 ^ s = ((2 ^ s * h' : Nat) : Int) := by rw [hh', Int.natCast_mul, c1, Int.mul_comm]
    have hc1 : 2 ^ s * h' < 18446744073709551616 := by
      have h5 : ((2 ^ s * h' : Nat) : Int) < 18446744073709551616 := by rw [← cc]; exact hhS
      exact Int.ofNat_lt.1 h5
    have hc2 : b < 18446744073709551616 := by have := Int.ediv_le_self (2 ^ n) hl; omega
    rw [hb, cc, bits_or_nat _ _ hc1 hc2, ← Nat.two_pow_add_eq_or_of_lt hb2, Int.natCast_add]
  rw [hor]
  have hV : (hi * 18446744073709551616 + lo) * 2 ^ s = (hi * 2 ^ s + lo / 2 ^ n) * 18446744073709551616 + (lo * 2 ^ s) % 18446744073709551616 := by
    have h1 : lo * 2 ^ s / 18446744073709551616 = lo / 2 ^ n := by rw [hSI]; exact Int.mul_ediv_mul_of_pos_left _ _ hSp
    have h2 : (hi * 18446744073709551616 + lo) * 2 ^ s = hi * 2 ^ s * 18446744073709551616 + lo * 2 ^ s := by
      rw [Int.add_mul]; congr 1; ac_rfl
    rw [h2, ← h1]; omega
  have hVd : (hi * 18446744073709551616 + lo) * 2 ^ s / 18446744073709551616 = hi * 2 ^ s + lo / 2 ^ n := by rw [hV]; omega
  have hVm : (hi * 18446744073709551616 + lo) * 2 ^ s % 18446744073709551616 = lo * 2 ^ s % 18446744073709551616 := by rw [hV]; omega
  have hVm2 : (hi * 18446744073709551616 + lo) * 2 ^ s % 4294967296 = lo * 2 ^ s % 18446744073709551616 % 4294967296 := by rw [hV]; omega
  have hand : ∀ x : Int, 0 ≤ x → x < 18446744073709551616 → Go.bits .and .u64 x 4294967295 = x % 4294967296 := by
    intro x h1 h2
    obtain ⟨m, rfl⟩ := Int.eq_ofNat_of_zero_le h1
    rw [Mul64.maskN m (by omega)]; omega
  rw [hand _ (by omega) hyI1, hand (lo * 2 ^ s % 18446744073709551616) (by omega) (by omega)]
  have hm := @div_f0 k hi lo y (s : Int) hk (by omega) (by omega) (by omega) (by rw [Int.toNat_natCast]; exact hyI2) (by rw [Int.toNat_natCast]; exact hyI1) (by omega) hhy hl hl'
  rw [Int.toNat_natCast, hVd, hVm, hVm2] at hm
  have hU0 : 0 ≤ hi * 2 ^ s + lo / 2 ^ n := by omega
  have hUlt : hi * 2 ^ s + lo / 2 ^ n < y * 2 ^ s := by
    have h1 : (hi + 1) * 2 ^ s ≤ y * 2 ^ s := Int.mul_le_mul_of_nonneg_right (by omega) (by omega)
    rw [Int.add_mul] at h1; omega
  generalize hi * 2 ^ s + lo / 2 ^ n = U at hm hU0 hUlt ⊢
  generalize y * 2 ^ s = Y at hm hyI1 hyI2 hUlt ⊢
  rw [if_neg (by omega), Int.tdiv_eq_ediv_of_nonneg hU0]
  have g := Guess.mkk (Y := Y) (a := Y / 4294967296) (b := Y % 4294967296) (U := U) (u := 0) (by omega) (by omega) (by omega) (by omega) (by omega) hU0 hUlt (by omega) (by omega)
  have hq := g.qle; have hr := g.hr; have hr' := g.hr'
  have hp : 0 ≤ U / (Y / 4294967296) * (Y / 4294967296) := Int.mul_nonneg hq.1 (by omega)
  rw [wu64 (x := U / (Y / 4294967296)) (by omega) (by omega), wu64 (x := U / (Y / 4294967296) * (Y / 4294967296)) hp (by omega), wu64 (x := U - U / (Y / 4294967296) * (Y / 4294967296)) (by omega) (by omega)]
  exact hm
end Go.Proofs.YtgkemhgihbfmmaaDoor.PA
end
