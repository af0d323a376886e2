/- Part 19 of the proof for Units: functions of the program as plain Lean functions, their calls, and what they come to. -/
import Derived.RowKit
import Derived.Laws.BitsLemmas
import Derived.Shelf.Bits.Mul64
import Derived.Test.YtgkemhgihbfmmaaDoorUnitsK15
import Derived.Test.YtgkemhgihbfmmaaDoorUnitsK17
import Derived.Test.YtgkemhgihbfmmaaDoorUnitsK2
import Derived.Test.YtgkemhgihbfmmaaDoorUnitsK16
section
namespace Go.Proofs.YtgkemhgihbfmmaaDoor.PA
open Go.RowKit Go.Proofs.YtgkemhgihbfmmaaDoorW.PrintWords Go.Proofs.YtgkemhgihbfmmaaDoorW.PrintLast Go.Proofs.YtgkemhgihbfmmaaDoorW.PrintMore
attribute [local go_sem] max2_int min2_int max_two min_two max_three min_three max_four min_four
set_option linter.unusedVariables false
set_option linter.unusedSimpArgs false
def deci_At.j0 : Nat → Int → Bool → Int → Int → Option (Int × Bool × Int)
  | 0, _, _, _, _ => none
  | k + 1, x1, x15, x306000, x306001 => if x15 = true then (some (0, false, 1)) else ((deci_all.f k (([(⟨x306000, x306001⟩ : S23)] : List (S23)))).bind fun t309 => (if t309 = 0 then ((deci_power.f k (wrap64 (6 - x1))).bind fun t310 => ((deci_units.f k x306000 x306001).bind fun t311 => (if (wrap64 (t310)) = 0 then (none) else ((deci_units.f k x306000 x306001).bind fun t312 => (if (Int.tmod t312 (wrap64 (t310))) < 0 then ((deci_units.f k x306000 x306001).bind fun t313 => (some (wrap64 ((wrap64 (Int.tdiv t311 (wrap64 (t310)))) - 1), ((Int.tmod t313 (wrap64 (t310))) == 0), 0))) else ((deci_units.f k x306000 x306001).bind fun t314 => (some (wrap64 (Int.tdiv t311 (wrap64 (t310))), ((Int.tmod t314 (wrap64 (t310))) == 0), 0)))))))) else (some (0, false, t309))))
def deci_At.f (k : Nat) (a0_0 : Int) (a0_1 : Int) (a1 : Int) : Option (Int × Bool × Int) := if a1 < 0 then (deci_At.j0 k a1 true a0_0 a0_1) else (deci_At.j0 k a1 (decide (a1 > 6)) a0_0 a0_1)
theorem deci_At.mono_l : ∀ k, (∀ y0 y1 y2 y3, LeO (deci_At.j0 k y0 y1 y2 y3) (deci_At.j0 (k + 1) y0 y1 y2 y3))
  | 0 => fun _ _ _ _ r h => by simp [deci_At.j0] at h
  | k + 1 => by
    have ih0 := deci_At.mono_l k
    · intro y0 y1 y2 y3
      unfold deci_At.j0
      repeat' first
      | (with_reducible exact ih0 _ _ _ _)
      | (with_reducible exact deci_all.mono _ _)
      | (with_reducible exact deci_power.mono _ _)
      | (with_reducible exact deci_units.mono _ _ _)
      | (with_reducible exact LeO.refl _)
      | (with_reducible exact LeO.none _)
      | (with_reducible refine LeO.ite ?_ ?_)
      | (with_reducible refine LeO.bind ?_ (fun _ => ?_))
      | exact ih0 _ _ _ _
      | exact deci_all.mono _ _
      | exact deci_power.mono _ _
      | exact deci_units.mono _ _ _
      | exact LeO.none _
      | refine LeO.ite ?_ ?_
      | refine LeO.bind ?_ (fun _ => ?_)
theorem deci_At.mono : ∀ a0 a1 a2 k, LeO (deci_At.f k a0 a1 a2) (deci_At.f (k + 1) a0 a1 a2) := by
  intro a0 a1 a2 k
  have ih0 := deci_At.mono_l k
  unfold deci_At.f
  repeat' first
      | (with_reducible exact ih0 _ _ _ _)
      | (with_reducible exact deci_all.mono _ _)
      | (with_reducible exact deci_power.mono _ _)
      | (with_reducible exact deci_units.mono _ _ _)
      | (with_reducible exact LeO.refl _)
      | (with_reducible exact LeO.none _)
      | (with_reducible refine LeO.ite ?_ ?_)
      | (with_reducible refine LeO.bind ?_ (fun _ => ?_))
      | exact ih0 _ _ _ _
      | exact deci_all.mono _ _
      | exact deci_power.mono _ _
      | exact deci_units.mono _ _ _
      | exact LeO.none _
      | refine LeO.ite ?_ ?_
      | refine LeO.bind ?_ (fun _ => ?_)
def deci_At.T11 : Bool × List (List Nat × List Nat) := (true, [([], []), ([], []), ([1], [1]), ([], []), ([2, 3], [2, 3]), ([4], [4]), ([0, 2, 0], [0]), ([5, 6, 0, 1, 2, 3, 4, 5, 6], [5]), ([7, 0, 1, 2, 3, 4, 5, 6, 7], [])])
def deci_At.B11 : List Nat := [0, 0, 2, 0, 14, 30, 7, 127, 255]
theorem deci_At.tab11 : rtab .any (opsOf Tryd.f20 11) = deci_At.T11 := by kernel_rfl
theorem deci_At.bits11 : waitsOk deci_At.T11.2 deci_At.B11 = true := by kernel_rfl
set_option maxHeartbeats 8000000 in
set_option maxRecDepth 100000 in
theorem deci_At.calls (k : Nat) (a0_0 : Int) (a0_1 : Int) (a1 : Int) (r1 : Int) (r2 : Bool) (r3 : Int) (w : World) (h : deci_At.f k a0_0 a0_1 a1 = some (r1, r2, r3)) :
    Calls Tryd.prog 20 #[.agg #[.int .i64 a0_0, .int .i64 a0_1], .int .i64 a1] w fun e w' => e = .returned (.tuple #[.int .i64 r1, .bool r2, .int .i64 r3]) ∧ Below w.heap.size w w' := by
  have hu23 := Tryd.underlying23
  have HB := Aside0.mk (Below.refl w.heap.size w)
  have H : (if a1 < 0 then (deci_At.j0 k a1 true a0_0 a0_1) else (deci_At.j0 k a1 (decide (a1 > 6)) a0_0 a0_1)) = some (r1, r2, r3) := h
  clear h
  have HC3 := Aside0.mk H
  clear H
  go_enter Tryd.func20, Tryd.ntmps20
  go_upto_region 1 with (first | ((with_reducible refine gate_dst (N := 2) rfl ?_); refine box_event ?hg (N := 2) ?hd (cs := #[.int .i64 a0_0, .int .i64 a0_1]) (t := 23) ?hr ?_; (case hd => rfl); (case hg => rfl); (case hr => first | (go_simp; done) | (go_simp; rfl)); intro gb305 hg w4 hbox hb; have n0_ := Aside0.mk (below_step (by repeat (first | (with_reducible first | exact HB.out | apply below_alloc | apply pw_below_drewN | apply below_drew1) | exact HB.out)) hb); have n1_ := Aside0.mk (hbox); have n2_ := Aside0.mk ((by rw [hg]; exact (below_size (by repeat (first | (with_reducible first | exact HB.out | apply below_alloc | apply pw_below_drewN | apply below_drew1) | exact HB.out))) : w.heap.size ≤ gb305)); have n3_ := Aside0.mk ((by rw [hg]; exact (below_size (by repeat (first | (with_reducible first | exact HB.out | apply below_alloc | apply pw_below_drewN | apply below_drew1) | exact HB.out))) : w.heap.size ≤ gb305)); clear HB; have HB := n0_; have BK305 := n1_; have GW305 := n2_; have GE305 := n3_; clear n0_ n1_ n2_ n3_; clear hb hbox hg))
  (try simp only [Act.put, List.setIfInBounds_toArray, List.set_cons_zero, List.set_cons_succ])
  go_cut [15] (fun v15 wc => ∃ (kq : Nat) (x15_2 : Bool), v15 = .bool x15_2 ∧ Aside0 (deci_At.j0 kq a1 x15_2 a0_0 a0_1 = some (r1, r2, r3)) ∧ Aside0 (kq ≤ k) ∧ Aside0 (wc.heap[gb305]? = some (.cells #[.int .i64 a0_0, .int .i64 a0_1] 23 (0, 0))) ∧ Aside0 (Below w.heap.size w wc))
  case first =>
    have H := HC3.out
    clear HC3
    by_cases c5 : a1 < 0
    · rw [if_pos c5] at H
      have c5b0 : decide (a1 < 0) = true := decide_eq_true c5
      clear c5
      (first | rw [c5b0] | (simp only [i64_w, i32_w]; rw [c5b0]) | skip)
      have H' := Aside0.mk H
      clear H
      go_wp2
      go_meet
      case rel => exact ⟨_, (true), (by first | rfl | (simp; done) | (simp [*]; done)), H', ⟨by first | omega | exact Nat.le_refl _⟩, ⟨by (with_reducible repeat (first | refine blk_drewN ?_ _ | refine blk_drew ?_ | refine blk_alloc ?_ _)); exact BK305.out⟩, ⟨by repeat (first | (with_reducible first | exact HB.out | apply below_alloc | apply pw_below_drewN | apply below_drew1 | refine below_set ?_ GE305.out) | exact HB.out)⟩⟩
    · rw [if_neg c5] at H
      have c5b0 : decide (a1 < 0) = false := decide_eq_false c5
      clear c5
      (first | rw [c5b0] | (simp only [i64_w, i32_w]; rw [c5b0]) | skip)
      have H' := Aside0.mk H
      clear H
      go_wp2
      go_meet
      case rel => exact ⟨_, (decide (a1 > 6)), (by first | rfl | (simp; done) | (simp [*]; done)), H', ⟨by first | omega | exact Nat.le_refl _⟩, ⟨by (with_reducible repeat (first | refine blk_drewN ?_ _ | refine blk_drew ?_ | refine blk_alloc ?_ _)); exact BK305.out⟩, ⟨by repeat (first | (with_reducible first | exact HB.out | apply below_alloc | apply pw_below_drewN | apply below_drew1 | refine below_set ?_ GE305.out) | exact HB.out)⟩⟩
  case rest =>
    clear HC3
    try clear c2
    try clear p2
    try clear c5
    try clear c5b0
    obtain ⟨kq, x15_2, rfl, HA, HJ2, BK305, HB⟩ := hcut
    cases kq with
    | zero => exact absurd HA.out (by simp [deci_At.j0])
    | succ kj2 =>
      have H := HA.out
      clear HA
      simp only [deci_At.j0] at H
      by_cases c6 : x15_2 = true
      · subst c6
        have H1 : (some (0, false, 1)) = some (r1, r2, r3) := by rw [if_pos rfl] at H; exact H
        clear H
        have H := H1
        clear H1
        simp only [Option.some.injEq, Prod.mk.injEq] at H
        obtain ⟨rfl, rfl, rfl⟩ := H
        go_wp2
        go_ret3
        exact ⟨by first | rfl | (simp [errW_none, errW_some] <;> rfl) | (simp [*, errW_none, errW_some] <;> rfl), by repeat (first | (with_reducible first | exact HB.out | apply below_alloc | apply pw_below_drewN | apply below_drew1 | refine below_set ?_ GE305.out) | exact HB.out)⟩
      · replace c6 := Bool.eq_false_iff.mpr c6
        subst c6
        have H1 : ((deci_all.f kj2 (([(⟨a0_0, a0_1⟩ : S23)] : List (S23)))).bind fun t309 => (if t309 = 0 then ((deci_power.f kj2 (wrap64 (6 - a1))).bind fun t310 => ((deci_units.f kj2 a0_0 a0_1).bind fun t311 => (if (wrap64 (t310)) = 0 then (none) else ((deci_units.f kj2 a0_0 a0_1).bind fun t312 => (if (Int.tmod t312 (wrap64 (t310))) < 0 then ((deci_units.f kj2 a0_0 a0_1).bind fun t313 => (some (wrap64 ((wrap64 (Int.tdiv t311 (wrap64 (t310)))) - 1), ((Int.tmod t313 (wrap64 (t310))) == 0), 0))) else ((deci_units.f kj2 a0_0 a0_1).bind fun t314 => (some (wrap64 (Int.tdiv t311 (wrap64 (t310))), ((Int.tmod t314 (wrap64 (t310))) == 0), 0)))))))) else (some (0, false, t309)))) = some (r1, r2, r3) := by rw [if_neg (show ¬ (false = true) by decide)] at H; exact H
        clear H
        have H := H1
        clear H1
        obtain ⟨y306, hy306⟩ : ∃ y_ : List (S23), y_ = (([(⟨a0_0, a0_1⟩ : S23)] : List (S23))) := ⟨_, rfl⟩
        replace H : ((deci_all.f kj2 y306).bind fun t309 => (if t309 = 0 then ((deci_power.f kj2 (wrap64 (6 - a1))).bind fun t310 => ((deci_units.f kj2 a0_0 a0_1).bind fun t311 => (if (wrap64 (t310)) = 0 then (none) else ((deci_units.f kj2 a0_0 a0_1).bind fun t312 => (if (Int.tmod t312 (wrap64 (t310))) < 0 then ((deci_units.f kj2 a0_0 a0_1).bind fun t313 => (some (wrap64 ((wrap64 (Int.tdiv t311 (wrap64 (t310)))) - 1), ((Int.tmod t313 (wrap64 (t310))) == 0), 0))) else ((deci_units.f kj2 a0_0 a0_1).bind fun t314 => (some (wrap64 (Int.tdiv t311 (wrap64 (t310))), ((Int.tmod t314 (wrap64 (t310))) == 0), 0)))))))) else (some (0, false, t309)))) = some (r1, r2, r3) := by first | (rw [hy306]; with_reducible exact H) | (have H2_ := (Option.bind_some _ _).symm.trans H; rw [hy306]; with_reducible exact H2_) | (have H2_ := (Option.bind_some _ _).symm.trans H; with_reducible exact H2_) | with_reducible exact H | (rw [hy306]; exact H) | exact H
        have Ny306 := Aside0.mk hy306
        clear hy306
        replace H := Option.bind_eq_some_iff.mp H
        obtain ⟨t309, A70, H⟩ := H
        replace H : (if t309 = 0 then ((deci_power.f kj2 (wrap64 (6 - a1))).bind fun t310 => ((deci_units.f kj2 a0_0 a0_1).bind fun t311 => (if (wrap64 (t310)) = 0 then (none) else ((deci_units.f kj2 a0_0 a0_1).bind fun t312 => (if (Int.tmod t312 (wrap64 (t310))) < 0 then ((deci_units.f kj2 a0_0 a0_1).bind fun t313 => (some (wrap64 ((wrap64 (Int.tdiv t311 (wrap64 (t310)))) - 1), ((Int.tmod t313 (wrap64 (t310))) == 0), 0))) else ((deci_units.f kj2 a0_0 a0_1).bind fun t314 => (some (wrap64 (Int.tdiv t311 (wrap64 (t310))), ((Int.tmod t314 (wrap64 (t310))) == 0), 0)))))))) else (some (0, false, t309))) = some (r1, r2, r3) := H
        have A7 := Aside0.mk A70
        clear A70
        by_cases c8 : t309 = 0
        · rw [if_pos c8] at H
          have c8b0 : (t309 == 0) = true := beq_iff_eq.mpr c8
          have c8b1 : (t309 != 0) = false := bne_eq_false_iff_eq.mpr c8
          clear c8
          replace H := Option.bind_eq_some_iff.mp H
          obtain ⟨t310, A90, H⟩ := H
          replace H : ((deci_units.f kj2 a0_0 a0_1).bind fun t311 => (if (wrap64 (t310)) = 0 then (none) else ((deci_units.f kj2 a0_0 a0_1).bind fun t312 => (if (Int.tmod t312 (wrap64 (t310))) < 0 then ((deci_units.f kj2 a0_0 a0_1).bind fun t313 => (some (wrap64 ((wrap64 (Int.tdiv t311 (wrap64 (t310)))) - 1), ((Int.tmod t313 (wrap64 (t310))) == 0), 0))) else ((deci_units.f kj2 a0_0 a0_1).bind fun t314 => (some (wrap64 (Int.tdiv t311 (wrap64 (t310))), ((Int.tmod t314 (wrap64 (t310))) == 0), 0))))))) = some (r1, r2, r3) := H
          have A9 := Aside0.mk A90
          clear A90
          replace H := Option.bind_eq_some_iff.mp H
          obtain ⟨t311, A100, H⟩ := H
          replace H : (if (wrap64 (t310)) = 0 then (none) else ((deci_units.f kj2 a0_0 a0_1).bind fun t312 => (if (Int.tmod t312 (wrap64 (t310))) < 0 then ((deci_units.f kj2 a0_0 a0_1).bind fun t313 => (some (wrap64 ((wrap64 (Int.tdiv t311 (wrap64 (t310)))) - 1), ((Int.tmod t313 (wrap64 (t310))) == 0), 0))) else ((deci_units.f kj2 a0_0 a0_1).bind fun t314 => (some (wrap64 (Int.tdiv t311 (wrap64 (t310))), ((Int.tmod t314 (wrap64 (t310))) == 0), 0)))))) = some (r1, r2, r3) := H
          have A10 := Aside0.mk A100
          clear A100
          by_cases c11 : (wrap64 (t310)) = 0
          · rw [if_pos c11] at H
            exact absurd H (by simp)
          · rw [if_neg c11] at H
            have c11b0 : ((wrap64 (t310)) == 0) = false := beq_eq_false_iff_ne.mpr c11
            have c11b1 : ((wrap64 (t310)) != 0) = true := bne_iff_ne.mpr c11
            replace H := Option.bind_eq_some_iff.mp H
            obtain ⟨t312, A120, H⟩ := H
            replace H : (if (Int.tmod t312 (wrap64 (t310))) < 0 then ((deci_units.f kj2 a0_0 a0_1).bind fun t313 => (some (wrap64 ((wrap64 (Int.tdiv t311 (wrap64 (t310)))) - 1), ((Int.tmod t313 (wrap64 (t310))) == 0), 0))) else ((deci_units.f kj2 a0_0 a0_1).bind fun t314 => (some (wrap64 (Int.tdiv t311 (wrap64 (t310))), ((Int.tmod t314 (wrap64 (t310))) == 0), 0)))) = some (r1, r2, r3) := H
            have A12 := Aside0.mk A120
            clear A120
            by_cases c13 : (Int.tmod t312 (wrap64 (t310))) < 0
            · rw [if_pos c13] at H
              have c13b0 : decide ((Int.tmod t312 (wrap64 (t310))) < 0) = true := decide_eq_true c13
              clear c13
              replace H := Option.bind_eq_some_iff.mp H
              obtain ⟨t313, A140, H⟩ := H
              replace H : (some (wrap64 ((wrap64 (Int.tdiv t311 (wrap64 (t310)))) - 1), ((Int.tmod t313 (wrap64 (t310))) == 0), 0)) = some (r1, r2, r3) := H
              have A14 := Aside0.mk A140
              clear A140
              simp only [Option.some.injEq, Prod.mk.injEq] at H
              obtain ⟨rfl, rfl, rfl⟩ := H
              have hcz15_0 : wc.cell? ⟨gb305, 0, none⟩ = some (.int .i64 a0_0) := (blk_cell BK305.out 0).trans rfl
              have hcz15_1 : wc.cell? ⟨gb305, 1, none⟩ = some (.int .i64 a0_1) := (blk_cell BK305.out 1).trans rfl
              have hfz15_0 := blk_frozen BK305.out 0
              have hfz15_1 := blk_frozen BK305.out 1
              try go_wp2_with (first | ((with_reducible refine gate_dst (N := 17) rfl ?_); refine Kd.R_lit k23 _ 23 ?hg (N := 17) ?hd (xs := ([(⟨a0_0, a0_1⟩ : S23)] : List (S23))) (inner := [.int .i64 a0_0, .int .i64 a0_1]) (ok := fun _ => True) (okp := fun _ => True) ?hr ?hp (fun _ hk => hk) trivial (Below.refl _ _) (Nat.le_refl _) (by simp) ?_; (case hd => rfl); (case hg => rfl); (case hr => first | (go_simp; done) | (go_simp; rfl)); (case hp => exact (Reps.c2 (show Kd.M k23 _ _ _ (⟨a0_0, a0_1⟩ : S23) [.int .i64 a0_0, .int .i64 a0_1] from (k23_mkM _ _ _ (⟨a0_0, a0_1⟩ : S23) )) (Reps.none _ _))); intro v307 w16 ho17 hb hg_ hnew_; clear hg_ hnew_; (first | rw [← Ny306.out] at ho17 | (simp only [Int.reduceToNat] at ho17; rw [← Ny306.out] at ho17)); have n0_ := Aside0.mk (Kd.R_lower (Kd.R_newB ho17 (g := gb305) (o := .cells #[.int .i64 a0_0, .int .i64 a0_1] 23 (0, 0)) (by (with_reducible repeat (first | refine blk_drewN ?_ _ | refine blk_drew ?_ | refine blk_alloc ?_ _)); exact BK305.out)) (below_size (by repeat (first | (with_reducible first | exact HB.out | apply below_alloc | apply pw_below_drewN | apply below_drew1 | refine below_set ?_ GE305.out) | exact HB.out)))); have n1_ := Aside0.mk (blk_below (g := gb305) (o := .cells #[.int .i64 a0_0, .int .i64 a0_1] 23 (0, 0)) (by (with_reducible repeat (first | refine blk_drewN ?_ _ | refine blk_drew ?_ | refine blk_alloc ?_ _)); exact BK305.out) hb); have n2_ := Aside0.mk (below_step (by repeat (first | (with_reducible first | exact HB.out | apply below_alloc | apply pw_below_drewN | apply below_drew1 | refine below_set ?_ GE305.out) | exact HB.out)) hb); clear BK305; clear HB; have HO308 := n0_; have BK305 := n1_; have HB := n2_; clear n0_ n1_ n2_; clear hb ho17; obtain ⟨Ao18, co18, eo18⟩ := Kd.R_slice HO308.out; subst eo18) | ((with_reducible refine gate_callee (f := 27) rfl ?_); refine goesL_ (some 18) rfl rfl Tryd.func27 (by kernel_rfl) rfl #[.slice Ao18 y306.length co18] rfl (by (try simp only [List.map_toArray, List.map_cons, List.map_nil]); first | done | rfl | (simp only [List.length_drop, List.length_take]; rfl)) ?_; (with_reducible refine (deci_all.calls kj2 _ _ y306 t309 _ ?side1 ?side2 A7.out).mono ?_); (case side1 => repeat (first | exact (Kd.R_reads' HO308.out).2.2 | (with_reducible refine Kd.C_alloc ?_ _) | (with_reducible refine Kd.C_drewN ?_ _) | (with_reducible refine Kd.C_drew ?_))); (case side2 => exact (Kd.R_reads' HO308.out).2.1); rintro e w19 ⟨rfl, hb⟩; refine ⟨_, rfl, ?_⟩; have n0_ := Aside0.mk (Kd.R_below (by (with_reducible repeat (first | apply Kd.R_alloc | apply Kd.R_drewN | apply Kd.R_drew)); exact HO308.out) hb); have n1_ := Aside0.mk (blk_below (g := gb305) (o := .cells #[.int .i64 a0_0, .int .i64 a0_1] 23 (0, 0)) (by (with_reducible repeat (first | refine blk_drewN ?_ _ | refine blk_drew ?_ | refine blk_alloc ?_ _)); exact BK305.out) hb); have n2_ := Aside0.mk (below_step (by repeat (first | (with_reducible first | exact HB.out | apply below_alloc | apply pw_below_drewN | apply below_drew1 | refine below_set ?_ GE305.out) | exact HB.out)) hb); clear HO308; clear BK305; clear HB; have HO308 := n0_; have BK305 := n1_; have HB := n2_; clear n0_ n1_ n2_; (try clear hb); (try clear hb2); (try clear hk); (try clear hi)) | ((with_reducible refine gate_callee (f := 30) rfl ?_); refine goesL_ (some 24) rfl rfl Tryd.func30 (by kernel_rfl) rfl #[.int .i64 (wrap64 (6 - a1))] rfl (by (try simp only [List.map_toArray, List.map_cons, List.map_nil]); first | done | rfl | (simp only [List.length_drop, List.length_take]; rfl)) ?_; (with_reducible refine (deci_power.calls kj2 (wrap64 (6 - a1)) t310 _ A9.out).mono ?_); rintro e w' ⟨rfl, ⟨nd, rfl⟩⟩; refine ⟨_, rfl, ?_⟩; have hcz20_0 : w19.cell? ⟨gb305, 0, none⟩ = some (.int .i64 a0_0) := (blk_cell BK305.out 0).trans rfl; have hcz20_1 : w19.cell? ⟨gb305, 1, none⟩ = some (.int .i64 a0_1) := (blk_cell BK305.out 1).trans rfl; have hfz20_0 := blk_frozen BK305.out 0; have hfz20_1 := blk_frozen BK305.out 1) | ((with_reducible refine gate_callee (f := 42) rfl ?_); refine goesL_ (some 27) rfl rfl Tryd.func42 (by kernel_rfl) rfl #[.agg #[.int .i64 a0_0, .int .i64 a0_1]] rfl (by (try simp only [List.map_toArray, List.map_cons, List.map_nil]); first | done | rfl | (simp only [List.length_drop, List.length_take]; rfl)) ?_; (with_reducible refine (deci_units.calls kj2 a0_0 a0_1 t311 _ A10.out).mono ?_); rintro e w21 ⟨rfl, hb⟩; refine ⟨_, rfl, ?_⟩; have n0_ := Aside0.mk (Kd.R_below (by (with_reducible repeat (first | apply Kd.R_alloc | apply Kd.R_drewN | apply Kd.R_drew)); exact HO308.out) hb); have n1_ := Aside0.mk (blk_below (g := gb305) (o := .cells #[.int .i64 a0_0, .int .i64 a0_1] 23 (0, 0)) (by (with_reducible repeat (first | refine blk_drewN ?_ _ | refine blk_drew ?_ | refine blk_alloc ?_ _)); exact BK305.out) hb); have n2_ := Aside0.mk (below_step (by repeat (first | (with_reducible first | exact HB.out | apply below_alloc | apply pw_below_drewN | apply below_drew1 | refine below_set ?_ GE305.out) | exact HB.out)) hb); clear HO308; clear BK305; clear HB; have HO308 := n0_; have BK305 := n1_; have HB := n2_; clear n0_ n1_ n2_; (try clear hb); (try clear hb2); (try clear hk); (try clear hi); have hcz22_0 : w21.cell? ⟨gb305, 0, none⟩ = some (.int .i64 a0_0) := (blk_cell BK305.out 0).trans rfl; have hcz22_1 : w21.cell? ⟨gb305, 1, none⟩ = some (.int .i64 a0_1) := (blk_cell BK305.out 1).trans rfl; have hfz22_0 := blk_frozen BK305.out 0; have hfz22_1 := blk_frozen BK305.out 1) | ((with_reducible refine gate_callee (f := 42) rfl ?_); refine goesL_ (some 31) rfl rfl Tryd.func42 (by kernel_rfl) rfl #[.agg #[.int .i64 a0_0, .int .i64 a0_1]] rfl (by (try simp only [List.map_toArray, List.map_cons, List.map_nil]); first | done | rfl | (simp only [List.length_drop, List.length_take]; rfl)) ?_; (with_reducible refine (deci_units.calls kj2 a0_0 a0_1 t312 _ A12.out).mono ?_); rintro e w23 ⟨rfl, hb⟩; refine ⟨_, rfl, ?_⟩; have n0_ := Aside0.mk (Kd.R_below (by (with_reducible repeat (first | apply Kd.R_alloc | apply Kd.R_drewN | apply Kd.R_drew)); exact HO308.out) hb); have n1_ := Aside0.mk (blk_below (g := gb305) (o := .cells #[.int .i64 a0_0, .int .i64 a0_1] 23 (0, 0)) (by (with_reducible repeat (first | refine blk_drewN ?_ _ | refine blk_drew ?_ | refine blk_alloc ?_ _)); exact BK305.out) hb); have n2_ := Aside0.mk (below_step (by repeat (first | (with_reducible first | exact HB.out | apply below_alloc | apply pw_below_drewN | apply below_drew1 | refine below_set ?_ GE305.out) | exact HB.out)) hb); clear HO308; clear BK305; clear HB; have HO308 := n0_; have BK305 := n1_; have HB := n2_; clear n0_ n1_ n2_; (try clear hb); (try clear hb2); (try clear hk); (try clear hi)))
              have n0_ := Aside0.mk (Kd.R_drew HO308.out)
              have n1_ := Aside0.mk (blk_drew BK305.out)
              have n2_ := Aside0.mk (below_drew1 HB.out)
              clear HO308
              clear BK305
              clear HB
              have HO308 := n0_
              have BK305 := n1_
              have HB := n2_
              clear n0_ n1_ n2_
              refine start_ (n := 9) (S := fun w' => w'.cell? ⟨gb305, 0, none⟩ = some (.int .i64 a0_0) ∧ w'.cell? ⟨gb305, 1, none⟩ = some (.int .i64 a0_1)) (ds := []) #[false, false, false, false, false, false, false, false, false] (by kernel_rfl) rfl rfl ⟨(blk_cell BK305.out 0).trans rfl, (blk_cell BK305.out 1).trans rfl⟩ (fun hHeld => ?_); refine with_tabW deci_At.tab11 deci_At.bits11 (fun HT_ HW_ => ?_)
              generalize w23.drew = w24 at HO308 BK305 HB hHeld ⊢
              refine pure_ (i := 0) (N := some 38) (v := ?_) (a' := ?_) #[true, false, false, false, false, false, false, false, false] rfl rfl (any_of HT_.out (by kernel_rfl)) (fun _ _ _ h => h) (Or.inl ⟨by rfl, ?_⟩) ?_ ?_
              rotate_left
              · intro w'
                go_simp
                with_reducible rfl
              rotate_left
              · simp only [Act.put, List.setIfInBounds_toArray, List.set_cons_zero, List.set_cons_succ, i64_w, i32_w]
                rfl
              refine pure_ (i := 3) (N := some 41) (v := ?_) (a' := ?_) #[true, false, false, true, false, false, false, false, false] rfl rfl (any_of HT_.out (by kernel_rfl)) (fun _ _ _ h => h) (Or.inl ⟨by rfl, ?_⟩) ?_ ?_
              rotate_left
              · intro w'
                go_simp
                with_reducible rfl
              rotate_left
              · simp only [Act.put, List.setIfInBounds_toArray, List.set_cons_zero, List.set_cons_succ, i64_w, i32_w]
                rfl
              refine take_ (i := 1) (N := some 39) (v := ?_) (a' := ?_) #[true, true, false, true, false, false, false, false, false] rfl rfl (take_ofW HT_.out HW_.out (by kernel_rfl)) (fun _ _ _ h => h) (Or.inl ⟨by rfl, ?_⟩) hHeld ?_ ?_
              rotate_left
              · rintro w' ⟨s0, s1⟩
                go_simp
                with_reducible rfl
              rotate_left
              · simp only [Act.put, List.setIfInBounds_toArray, List.set_cons_zero, List.set_cons_succ, i64_w, i32_w]
                rfl
              refine one_ (i := 2) (N := some 40) #[true, true, true, true, false, false, false, false, false] rfl rfl (one_of HT_.out (by kernel_rfl)) (by decide) (fun K hK => ?_)
              refine goes_ Tryd.func42 (by kernel_rfl) rfl #[.agg #[.int .i64 a0_0, .int .i64 a0_1]] (by rfl) rfl rfl (by (try simp only [List.map_toArray, List.map_cons, List.map_nil]); first | done | rfl | (simp only [List.length_drop, List.length_take]; rfl)) ?_
              with_reducible refine (deci_units.calls kj2 a0_0 a0_1 t313 _ A14.out).mono ?_
              rintro e w25 ⟨rfl, hb⟩
              refine ⟨_, rfl, ?_⟩
              have n0_ := Aside0.mk (Kd.R_below (by (with_reducible repeat (first | apply Kd.R_alloc | apply Kd.R_drewN | apply Kd.R_drew)); exact HO308.out) hb)
              have n1_ := Aside0.mk (blk_below (g := gb305) (o := .cells #[.int .i64 a0_0, .int .i64 a0_1] 23 (0, 0)) (by (with_reducible repeat (first | refine blk_drewN ?_ _ | refine blk_drew ?_ | refine blk_alloc ?_ _)); exact BK305.out) hb)
              have n2_ := Aside0.mk (below_step (by repeat (first | (with_reducible first | exact HB.out | apply below_alloc | apply pw_below_drewN | apply below_drew1 | refine below_set ?_ GE305.out) | exact HB.out)) hb)
              clear HO308
              clear BK305
              clear HB
              have HO308 := n0_
              have BK305 := n1_
              have HB := n2_
              clear n0_ n1_ n2_
              (try clear hb)
              (try clear hb2)
              (try clear hk)
              (try clear hi)
              refine hK.out _ _ ⟨(blk_cell BK305.out 0).trans rfl, (blk_cell BK305.out 1).trans rfl⟩ (fun hHeld => ?_)
              clear hK K
              refine norm_ (a' := ?_) ?_ ?_
              rotate_left
              · show Act.put _ (some 40) _ = _
                simp only [Act.put, List.setIfInBounds_toArray, List.set_cons_zero, List.set_cons_succ, i64_w, i32_w]
                rfl
              refine pure_ (i := 4) (N := some 42) (v := ?_) (a' := ?_) #[true, true, true, true, true, false, false, false, false] rfl rfl (any_of HT_.out (by kernel_rfl)) (fun _ _ _ h => h) (Or.inl ⟨by rfl, ?_⟩) ?_ ?_
              rotate_left
              · intro w'
                go_simp
                with_reducible rfl
              rotate_left
              · simp only [Act.put, List.setIfInBounds_toArray, List.set_cons_zero, List.set_cons_succ, i64_w, i32_w]
                rfl
              refine pure_ (i := 5) (N := some 43) (v := ?_) (a' := ?_) #[true, true, true, true, true, true, false, false, false] rfl rfl (any_of HT_.out (by kernel_rfl)) (fun _ _ _ h => h) (Or.inl ⟨by rfl, ?_⟩) ?_ ?_
              rotate_left
              · intro w'
                go_simp
                with_reducible rfl
              rotate_left
              · simp only [Act.put, List.setIfInBounds_toArray, List.set_cons_zero, List.set_cons_succ, i64_w, i32_w]
                rfl
              refine pure_ (i := 6) (N := some 4) (v := ?_) (a' := ?_) #[true, true, true, true, true, true, true, false, false] rfl rfl (any_of HT_.out (by kernel_rfl)) (fun _ _ _ h => h) (Or.inl ⟨by rfl, ?_⟩) ?_ ?_
              rotate_left
              · intro w'
                go_simp
                with_reducible rfl
              rotate_left
              · simp only [Act.put, List.setIfInBounds_toArray, List.set_cons_zero, List.set_cons_succ, i64_w, i32_w]
                rfl
              refine pure_ (i := 7) (N := some 5) (v := ?_) (a' := ?_) #[true, true, true, true, true, true, true, true, false] rfl rfl (any_of HT_.out (by kernel_rfl)) (fun _ _ _ h => h) (Or.inl ⟨by rfl, ?_⟩) ?_ ?_
              rotate_left
              · intro w'
                go_simp
                with_reducible rfl
              rotate_left
              · simp only [Act.put, List.setIfInBounds_toArray, List.set_cons_zero, List.set_cons_succ, i64_w, i32_w]
                rfl
              refine pure_ (i := 8) (N := some 6) (v := ?_) (a' := ?_) #[true, true, true, true, true, true, true, true, true] rfl rfl (any_of HT_.out (by kernel_rfl)) (fun _ _ _ h => h) (Or.inl ⟨by rfl, ?_⟩) ?_ ?_
              rotate_left
              · intro w'
                go_simp
                with_reducible rfl
              rotate_left
              · simp only [Act.put, List.setIfInBounds_toArray, List.set_cons_zero, List.set_cons_succ, i64_w, i32_w]
                rfl
              refine done_ (done_of HT_.out (by kernel_rfl)) ?_
              try go_wp2
              go_ret3
              exact ⟨by first | rfl | (simp [errW_none, errW_some] <;> rfl) | (simp [*, errW_none, errW_some] <;> rfl), by repeat (first | (with_reducible first | exact HB.out | apply below_alloc | apply pw_below_drewN | apply below_drew1 | refine below_set ?_ GE305.out) | exact HB.out)⟩
            · rw [if_neg c13] at H
              have c13b0 : decide ((Int.tmod t312 (wrap64 (t310))) < 0) = false := decide_eq_false c13
              clear c13
              replace H := Option.bind_eq_some_iff.mp H
              obtain ⟨t314, A260, H⟩ := H
              replace H : (some (wrap64 (Int.tdiv t311 (wrap64 (t310))), ((Int.tmod t314 (wrap64 (t310))) == 0), 0)) = some (r1, r2, r3) := H
              have A26 := Aside0.mk A260
              clear A260
              simp only [Option.some.injEq, Prod.mk.injEq] at H
              obtain ⟨rfl, rfl, rfl⟩ := H
              have hcz27_0 : wc.cell? ⟨gb305, 0, none⟩ = some (.int .i64 a0_0) := (blk_cell BK305.out 0).trans rfl
              have hcz27_1 : wc.cell? ⟨gb305, 1, none⟩ = some (.int .i64 a0_1) := (blk_cell BK305.out 1).trans rfl
              have hfz27_0 := blk_frozen BK305.out 0
              have hfz27_1 := blk_frozen BK305.out 1
              try go_wp2_with (first | ((with_reducible refine gate_dst (N := 17) rfl ?_); refine Kd.R_lit k23 _ 23 ?hg (N := 17) ?hd (xs := ([(⟨a0_0, a0_1⟩ : S23)] : List (S23))) (inner := [.int .i64 a0_0, .int .i64 a0_1]) (ok := fun _ => True) (okp := fun _ => True) ?hr ?hp (fun _ hk => hk) trivial (Below.refl _ _) (Nat.le_refl _) (by simp) ?_; (case hd => rfl); (case hg => rfl); (case hr => first | (go_simp; done) | (go_simp; rfl)); (case hp => exact (Reps.c2 (show Kd.M k23 _ _ _ (⟨a0_0, a0_1⟩ : S23) [.int .i64 a0_0, .int .i64 a0_1] from (k23_mkM _ _ _ (⟨a0_0, a0_1⟩ : S23) )) (Reps.none _ _))); intro v307 w28 ho29 hb hg_ hnew_; clear hg_ hnew_; (first | rw [← Ny306.out] at ho29 | (simp only [Int.reduceToNat] at ho29; rw [← Ny306.out] at ho29)); have n0_ := Aside0.mk (Kd.R_lower (Kd.R_newB ho29 (g := gb305) (o := .cells #[.int .i64 a0_0, .int .i64 a0_1] 23 (0, 0)) (by (with_reducible repeat (first | refine blk_drewN ?_ _ | refine blk_drew ?_ | refine blk_alloc ?_ _)); exact BK305.out)) (below_size (by repeat (first | (with_reducible first | exact HB.out | apply below_alloc | apply pw_below_drewN | apply below_drew1 | refine below_set ?_ GE305.out) | exact HB.out)))); have n1_ := Aside0.mk (blk_below (g := gb305) (o := .cells #[.int .i64 a0_0, .int .i64 a0_1] 23 (0, 0)) (by (with_reducible repeat (first | refine blk_drewN ?_ _ | refine blk_drew ?_ | refine blk_alloc ?_ _)); exact BK305.out) hb); have n2_ := Aside0.mk (below_step (by repeat (first | (with_reducible first | exact HB.out | apply below_alloc | apply pw_below_drewN | apply below_drew1 | refine below_set ?_ GE305.out) | exact HB.out)) hb); clear BK305; clear HB; have HO308 := n0_; have BK305 := n1_; have HB := n2_; clear n0_ n1_ n2_; clear hb ho29; obtain ⟨Ao30, co30, eo30⟩ := Kd.R_slice HO308.out; subst eo30) | ((with_reducible refine gate_callee (f := 27) rfl ?_); refine goesL_ (some 18) rfl rfl Tryd.func27 (by kernel_rfl) rfl #[.slice Ao30 y306.length co30] rfl (by (try simp only [List.map_toArray, List.map_cons, List.map_nil]); first | done | rfl | (simp only [List.length_drop, List.length_take]; rfl)) ?_; (with_reducible refine (deci_all.calls kj2 _ _ y306 t309 _ ?side1 ?side2 A7.out).mono ?_); (case side1 => repeat (first | exact (Kd.R_reads' HO308.out).2.2 | (with_reducible refine Kd.C_alloc ?_ _) | (with_reducible refine Kd.C_drewN ?_ _) | (with_reducible refine Kd.C_drew ?_))); (case side2 => exact (Kd.R_reads' HO308.out).2.1); rintro e w31 ⟨rfl, hb⟩; refine ⟨_, rfl, ?_⟩; have n0_ := Aside0.mk (Kd.R_below (by (with_reducible repeat (first | apply Kd.R_alloc | apply Kd.R_drewN | apply Kd.R_drew)); exact HO308.out) hb); have n1_ := Aside0.mk (blk_below (g := gb305) (o := .cells #[.int .i64 a0_0, .int .i64 a0_1] 23 (0, 0)) (by (with_reducible repeat (first | refine blk_drewN ?_ _ | refine blk_drew ?_ | refine blk_alloc ?_ _)); exact BK305.out) hb); have n2_ := Aside0.mk (below_step (by repeat (first | (with_reducible first | exact HB.out | apply below_alloc | apply pw_below_drewN | apply below_drew1 | refine below_set ?_ GE305.out) | exact HB.out)) hb); clear HO308; clear BK305; clear HB; have HO308 := n0_; have BK305 := n1_; have HB := n2_; clear n0_ n1_ n2_; (try clear hb); (try clear hb2); (try clear hk); (try clear hi)) | ((with_reducible refine gate_callee (f := 30) rfl ?_); refine goesL_ (some 24) rfl rfl Tryd.func30 (by kernel_rfl) rfl #[.int .i64 (wrap64 (6 - a1))] rfl (by (try simp only [List.map_toArray, List.map_cons, List.map_nil]); first | done | rfl | (simp only [List.length_drop, List.length_take]; rfl)) ?_; (with_reducible refine (deci_power.calls kj2 (wrap64 (6 - a1)) t310 _ A9.out).mono ?_); rintro e w' ⟨rfl, ⟨nd, rfl⟩⟩; refine ⟨_, rfl, ?_⟩; have hcz32_0 : w31.cell? ⟨gb305, 0, none⟩ = some (.int .i64 a0_0) := (blk_cell BK305.out 0).trans rfl; have hcz32_1 : w31.cell? ⟨gb305, 1, none⟩ = some (.int .i64 a0_1) := (blk_cell BK305.out 1).trans rfl; have hfz32_0 := blk_frozen BK305.out 0; have hfz32_1 := blk_frozen BK305.out 1) | ((with_reducible refine gate_callee (f := 42) rfl ?_); refine goesL_ (some 27) rfl rfl Tryd.func42 (by kernel_rfl) rfl #[.agg #[.int .i64 a0_0, .int .i64 a0_1]] rfl (by (try simp only [List.map_toArray, List.map_cons, List.map_nil]); first | done | rfl | (simp only [List.length_drop, List.length_take]; rfl)) ?_; (with_reducible refine (deci_units.calls kj2 a0_0 a0_1 t311 _ A10.out).mono ?_); rintro e w33 ⟨rfl, hb⟩; refine ⟨_, rfl, ?_⟩; have n0_ := Aside0.mk (Kd.R_below (by (with_reducible repeat (first | apply Kd.R_alloc | apply Kd.R_drewN | apply Kd.R_drew)); exact HO308.out) hb); have n1_ := Aside0.mk (blk_below (g := gb305) (o := .cells #[.int .i64 a0_0, .int .i64 a0_1] 23 (0, 0)) (by (with_reducible repeat (first | refine blk_drewN ?_ _ | refine blk_drew ?_ | refine blk_alloc ?_ _)); exact BK305.out) hb); have n2_ := Aside0.mk (below_step (by repeat (first | (with_reducible first | exact HB.out | apply below_alloc | apply pw_below_drewN | apply below_drew1 | refine below_set ?_ GE305.out) | exact HB.out)) hb); clear HO308; clear BK305; clear HB; have HO308 := n0_; have BK305 := n1_; have HB := n2_; clear n0_ n1_ n2_; (try clear hb); (try clear hb2); (try clear hk); (try clear hi); have hcz34_0 : w33.cell? ⟨gb305, 0, none⟩ = some (.int .i64 a0_0) := (blk_cell BK305.out 0).trans rfl; have hcz34_1 : w33.cell? ⟨gb305, 1, none⟩ = some (.int .i64 a0_1) := (blk_cell BK305.out 1).trans rfl; have hfz34_0 := blk_frozen BK305.out 0; have hfz34_1 := blk_frozen BK305.out 1) | ((with_reducible refine gate_callee (f := 42) rfl ?_); refine goesL_ (some 31) rfl rfl Tryd.func42 (by kernel_rfl) rfl #[.agg #[.int .i64 a0_0, .int .i64 a0_1]] rfl (by (try simp only [List.map_toArray, List.map_cons, List.map_nil]); first | done | rfl | (simp only [List.length_drop, List.length_take]; rfl)) ?_; (with_reducible refine (deci_units.calls kj2 a0_0 a0_1 t312 _ A12.out).mono ?_); rintro e w35 ⟨rfl, hb⟩; refine ⟨_, rfl, ?_⟩; have n0_ := Aside0.mk (Kd.R_below (by (with_reducible repeat (first | apply Kd.R_alloc | apply Kd.R_drewN | apply Kd.R_drew)); exact HO308.out) hb); have n1_ := Aside0.mk (blk_below (g := gb305) (o := .cells #[.int .i64 a0_0, .int .i64 a0_1] 23 (0, 0)) (by (with_reducible repeat (first | refine blk_drewN ?_ _ | refine blk_drew ?_ | refine blk_alloc ?_ _)); exact BK305.out) hb); have n2_ := Aside0.mk (below_step (by repeat (first | (with_reducible first | exact HB.out | apply below_alloc | apply pw_below_drewN | apply below_drew1 | refine below_set ?_ GE305.out) | exact HB.out)) hb); clear HO308; clear BK305; clear HB; have HO308 := n0_; have BK305 := n1_; have HB := n2_; clear n0_ n1_ n2_; (try clear hb); (try clear hb2); (try clear hk); (try clear hi)))
              have n0_ := Aside0.mk (Kd.R_drew HO308.out)
              have n1_ := Aside0.mk (blk_drew BK305.out)
              have n2_ := Aside0.mk (below_drew1 HB.out)
              clear HO308
              clear BK305
              clear HB
              have HO308 := n0_
              have BK305 := n1_
              have HB := n2_
              clear n0_ n1_ n2_
              refine start_ (n := 9) (S := fun w' => w'.cell? ⟨gb305, 0, none⟩ = some (.int .i64 a0_0) ∧ w'.cell? ⟨gb305, 1, none⟩ = some (.int .i64 a0_1)) (ds := []) #[false, false, false, false, false, false, false, false, false] (by kernel_rfl) rfl rfl ⟨(blk_cell BK305.out 0).trans rfl, (blk_cell BK305.out 1).trans rfl⟩ (fun hHeld => ?_); refine with_tabW deci_At.tab11 deci_At.bits11 (fun HT_ HW_ => ?_)
              generalize w35.drew = w36 at HO308 BK305 HB hHeld ⊢
              refine pure_ (i := 0) (N := some 38) (v := ?_) (a' := ?_) #[true, false, false, false, false, false, false, false, false] rfl rfl (any_of HT_.out (by kernel_rfl)) (fun _ _ _ h => h) (Or.inl ⟨by rfl, ?_⟩) ?_ ?_
              rotate_left
              · intro w'
                go_simp
                with_reducible rfl
              rotate_left
              · simp only [Act.put, List.setIfInBounds_toArray, List.set_cons_zero, List.set_cons_succ, i64_w, i32_w]
                rfl
              refine pure_ (i := 3) (N := some 41) (v := ?_) (a' := ?_) #[true, false, false, true, false, false, false, false, false] rfl rfl (any_of HT_.out (by kernel_rfl)) (fun _ _ _ h => h) (Or.inl ⟨by rfl, ?_⟩) ?_ ?_
              rotate_left
              · intro w'
                go_simp
                with_reducible rfl
              rotate_left
              · simp only [Act.put, List.setIfInBounds_toArray, List.set_cons_zero, List.set_cons_succ, i64_w, i32_w]
                rfl
              refine take_ (i := 1) (N := some 39) (v := ?_) (a' := ?_) #[true, true, false, true, false, false, false, false, false] rfl rfl (take_ofW HT_.out HW_.out (by kernel_rfl)) (fun _ _ _ h => h) (Or.inl ⟨by rfl, ?_⟩) hHeld ?_ ?_
              rotate_left
              · rintro w' ⟨s0, s1⟩
                go_simp
                with_reducible rfl
              rotate_left
              · simp only [Act.put, List.setIfInBounds_toArray, List.set_cons_zero, List.set_cons_succ, i64_w, i32_w]
                rfl
              refine one_ (i := 2) (N := some 40) #[true, true, true, true, false, false, false, false, false] rfl rfl (one_of HT_.out (by kernel_rfl)) (by decide) (fun K hK => ?_)
              refine goes_ Tryd.func42 (by kernel_rfl) rfl #[.agg #[.int .i64 a0_0, .int .i64 a0_1]] (by rfl) rfl rfl (by (try simp only [List.map_toArray, List.map_cons, List.map_nil]); first | done | rfl | (simp only [List.length_drop, List.length_take]; rfl)) ?_
              with_reducible refine (deci_units.calls kj2 a0_0 a0_1 t314 _ A26.out).mono ?_
              rintro e w37 ⟨rfl, hb⟩
              refine ⟨_, rfl, ?_⟩
              have n0_ := Aside0.mk (Kd.R_below (by (with_reducible repeat (first | apply Kd.R_alloc | apply Kd.R_drewN | apply Kd.R_drew)); exact HO308.out) hb)
              have n1_ := Aside0.mk (blk_below (g := gb305) (o := .cells #[.int .i64 a0_0, .int .i64 a0_1] 23 (0, 0)) (by (with_reducible repeat (first | refine blk_drewN ?_ _ | refine blk_drew ?_ | refine blk_alloc ?_ _)); exact BK305.out) hb)
              have n2_ := Aside0.mk (below_step (by repeat (first | (with_reducible first | exact HB.out | apply below_alloc | apply pw_below_drewN | apply below_drew1 | refine below_set ?_ GE305.out) | exact HB.out)) hb)
              clear HO308
              clear BK305
              clear HB
              have HO308 := n0_
              have BK305 := n1_
              have HB := n2_
              clear n0_ n1_ n2_
              (try clear hb)
              (try clear hb2)
              (try clear hk)
              (try clear hi)
              refine hK.out _ _ ⟨(blk_cell BK305.out 0).trans rfl, (blk_cell BK305.out 1).trans rfl⟩ (fun hHeld => ?_)
              clear hK K
              refine norm_ (a' := ?_) ?_ ?_
              rotate_left
              · show Act.put _ (some 40) _ = _
                simp only [Act.put, List.setIfInBounds_toArray, List.set_cons_zero, List.set_cons_succ, i64_w, i32_w]
                rfl
              refine pure_ (i := 4) (N := some 42) (v := ?_) (a' := ?_) #[true, true, true, true, true, false, false, false, false] rfl rfl (any_of HT_.out (by kernel_rfl)) (fun _ _ _ h => h) (Or.inl ⟨by rfl, ?_⟩) ?_ ?_
              rotate_left
              · intro w'
                go_simp
                with_reducible rfl
              rotate_left
              · simp only [Act.put, List.setIfInBounds_toArray, List.set_cons_zero, List.set_cons_succ, i64_w, i32_w]
                rfl
              refine pure_ (i := 5) (N := some 43) (v := ?_) (a' := ?_) #[true, true, true, true, true, true, false, false, false] rfl rfl (any_of HT_.out (by kernel_rfl)) (fun _ _ _ h => h) (Or.inl ⟨by rfl, ?_⟩) ?_ ?_
              rotate_left
              · intro w'
                go_simp
                with_reducible rfl
              rotate_left
              · simp only [Act.put, List.setIfInBounds_toArray, List.set_cons_zero, List.set_cons_succ, i64_w, i32_w]
                rfl
              refine pure_ (i := 6) (N := some 4) (v := ?_) (a' := ?_) #[true, true, true, true, true, true, true, false, false] rfl rfl (any_of HT_.out (by kernel_rfl)) (fun _ _ _ h => h) (Or.inl ⟨by rfl, ?_⟩) ?_ ?_
              rotate_left
              · intro w'
                go_simp
                with_reducible rfl
              rotate_left
              · simp only [Act.put, List.setIfInBounds_toArray, List.set_cons_zero, List.set_cons_succ, i64_w, i32_w]
                rfl
              refine pure_ (i := 7) (N := some 5) (v := ?_) (a' := ?_) #[true, true, true, true, true, true, true, true, false] rfl rfl (any_of HT_.out (by kernel_rfl)) (fun _ _ _ h => h) (Or.inl ⟨by rfl, ?_⟩) ?_ ?_
              rotate_left
              · intro w'
                go_simp
                with_reducible rfl
              rotate_left
              · simp only [Act.put, List.setIfInBounds_toArray, List.set_cons_zero, List.set_cons_succ, i64_w, i32_w]
                rfl
              refine pure_ (i := 8) (N := some 6) (v := ?_) (a' := ?_) #[true, true, true, true, true, true, true, true, true] rfl rfl (any_of HT_.out (by kernel_rfl)) (fun _ _ _ h => h) (Or.inl ⟨by rfl, ?_⟩) ?_ ?_
              rotate_left
              · intro w'
                go_simp
                with_reducible rfl
              rotate_left
              · simp only [Act.put, List.setIfInBounds_toArray, List.set_cons_zero, List.set_cons_succ, i64_w, i32_w]
                rfl
              refine done_ (done_of HT_.out (by kernel_rfl)) ?_
              try go_wp2
              go_ret3
              exact ⟨by first | rfl | (simp [errW_none, errW_some] <;> rfl) | (simp [*, errW_none, errW_some] <;> rfl), by repeat (first | (with_reducible first | exact HB.out | apply below_alloc | apply pw_below_drewN | apply below_drew1 | refine below_set ?_ GE305.out) | exact HB.out)⟩
        · rw [if_neg c8] at H
          have c8b0 : (t309 == 0) = false := beq_eq_false_iff_ne.mpr c8
          have c8b1 : (t309 != 0) = true := bne_iff_ne.mpr c8
          simp only [Option.some.injEq, Prod.mk.injEq] at H
          obtain ⟨rfl, rfl, rfl⟩ := H
          have hcz38_0 : wc.cell? ⟨gb305, 0, none⟩ = some (.int .i64 a0_0) := (blk_cell BK305.out 0).trans rfl
          have hcz38_1 : wc.cell? ⟨gb305, 1, none⟩ = some (.int .i64 a0_1) := (blk_cell BK305.out 1).trans rfl
          have hfz38_0 := blk_frozen BK305.out 0
          have hfz38_1 := blk_frozen BK305.out 1
          go_wp2_with (first | ((with_reducible refine gate_dst (N := 17) rfl ?_); refine Kd.R_lit k23 _ 23 ?hg (N := 17) ?hd (xs := ([(⟨a0_0, a0_1⟩ : S23)] : List (S23))) (inner := [.int .i64 a0_0, .int .i64 a0_1]) (ok := fun _ => True) (okp := fun _ => True) ?hr ?hp (fun _ hk => hk) trivial (Below.refl _ _) (Nat.le_refl _) (by simp) ?_; (case hd => rfl); (case hg => rfl); (case hr => first | (go_simp; done) | (go_simp; rfl)); (case hp => exact (Reps.c2 (show Kd.M k23 _ _ _ (⟨a0_0, a0_1⟩ : S23) [.int .i64 a0_0, .int .i64 a0_1] from (k23_mkM _ _ _ (⟨a0_0, a0_1⟩ : S23) )) (Reps.none _ _))); intro v307 w39 ho40 hb hg_ hnew_; clear hg_ hnew_; (first | rw [← Ny306.out] at ho40 | (simp only [Int.reduceToNat] at ho40; rw [← Ny306.out] at ho40)); have n0_ := Aside0.mk (Kd.R_lower (Kd.R_newB ho40 (g := gb305) (o := .cells #[.int .i64 a0_0, .int .i64 a0_1] 23 (0, 0)) (by (with_reducible repeat (first | refine blk_drewN ?_ _ | refine blk_drew ?_ | refine blk_alloc ?_ _)); exact BK305.out)) (below_size (by repeat (first | (with_reducible first | exact HB.out | apply below_alloc | apply pw_below_drewN | apply below_drew1 | refine below_set ?_ GE305.out) | exact HB.out)))); have n1_ := Aside0.mk (blk_below (g := gb305) (o := .cells #[.int .i64 a0_0, .int .i64 a0_1] 23 (0, 0)) (by (with_reducible repeat (first | refine blk_drewN ?_ _ | refine blk_drew ?_ | refine blk_alloc ?_ _)); exact BK305.out) hb); have n2_ := Aside0.mk (below_step (by repeat (first | (with_reducible first | exact HB.out | apply below_alloc | apply pw_below_drewN | apply below_drew1 | refine below_set ?_ GE305.out) | exact HB.out)) hb); clear BK305; clear HB; have HO308 := n0_; have BK305 := n1_; have HB := n2_; clear n0_ n1_ n2_; clear hb ho40; obtain ⟨Ao41, co41, eo41⟩ := Kd.R_slice HO308.out; subst eo41) | ((with_reducible refine gate_callee (f := 27) rfl ?_); refine goesL_ (some 18) rfl rfl Tryd.func27 (by kernel_rfl) rfl #[.slice Ao41 y306.length co41] rfl (by (try simp only [List.map_toArray, List.map_cons, List.map_nil]); first | done | rfl | (simp only [List.length_drop, List.length_take]; rfl)) ?_; (with_reducible refine (deci_all.calls kj2 _ _ y306 t309 _ ?side1 ?side2 A7.out).mono ?_); (case side1 => repeat (first | exact (Kd.R_reads' HO308.out).2.2 | (with_reducible refine Kd.C_alloc ?_ _) | (with_reducible refine Kd.C_drewN ?_ _) | (with_reducible refine Kd.C_drew ?_))); (case side2 => exact (Kd.R_reads' HO308.out).2.1); rintro e w42 ⟨rfl, hb⟩; refine ⟨_, rfl, ?_⟩; have n0_ := Aside0.mk (Kd.R_below (by (with_reducible repeat (first | apply Kd.R_alloc | apply Kd.R_drewN | apply Kd.R_drew)); exact HO308.out) hb); have n1_ := Aside0.mk (blk_below (g := gb305) (o := .cells #[.int .i64 a0_0, .int .i64 a0_1] 23 (0, 0)) (by (with_reducible repeat (first | refine blk_drewN ?_ _ | refine blk_drew ?_ | refine blk_alloc ?_ _)); exact BK305.out) hb); have n2_ := Aside0.mk (below_step (by repeat (first | (with_reducible first | exact HB.out | apply below_alloc | apply pw_below_drewN | apply below_drew1 | refine below_set ?_ GE305.out) | exact HB.out)) hb); clear HO308; clear BK305; clear HB; have HO308 := n0_; have BK305 := n1_; have HB := n2_; clear n0_ n1_ n2_; (try clear hb); (try clear hb2); (try clear hk); (try clear hi)))
          go_ret3
          exact ⟨by first | rfl | (simp [errW_none, errW_some] <;> rfl) | (simp [*, errW_none, errW_some] <;> rfl), by repeat (first | (with_reducible first | exact HB.out | apply below_alloc | apply pw_below_drewN | apply below_drew1 | refine below_set ?_ GE305.out) | exact HB.out)⟩
end Go.Proofs.YtgkemhgihbfmmaaDoor.PA
end
section
namespace Go.Proofs.YtgkemhgihbfmmaaDoor.PA
open Go.RowKit Go.Proofs.YtgkemhgihbfmmaaDoorW.PrintWords Go.Proofs.YtgkemhgihbfmmaaDoorW.PrintLast Go.Proofs.YtgkemhgihbfmmaaDoorW.PrintMore
attribute [local go_sem] max2_int min2_int max_two min_two max_three min_three max_four min_four
set_option linter.unusedVariables false
set_option linter.unusedSimpArgs false
mutual
def soffitref01_At.j0 : Nat → Int → Bool → Int → Int → Option (Int × Bool × Int)
  | 0, _, _, _, _ => none
  | k + 1, x1, x17, x316000, x316001 => if x17 = true then (some (0, false, 1)) else ((soffitref01_Sound.f k x316000 x316001).bind fun t316 => (if t316 = true then (soffitref01_At.l0 k x1 x316000 x316001 x316000 x316001) else (some (0, false, 2))))
def soffitref01_At.l0 : Nat → Int → Int → Int → Int → Int → Option (Int × Bool × Int)
  | 0, _, _, _, _, _ => none
  | k + 1, x1, x7, x8, x316000, x316001 => if x8 < x1 then (soffitref01_At.l0 k x1 (wrap64 (x7 * 10)) (wrap64 (x8 + 1)) x316000 x316001) else (soffitref01_At.l1 k x7 true x1 x316000 x316001)
def soffitref01_At.l1 : Nat → Int → Bool → Int → Int → Int → Option (Int × Bool × Int)
  | 0, _, _, _, _, _ => none
  | k + 1, x7, x9, x10, x316000, x316001 => if x10 < x316001 then (if (Int.tmod x7 10) = 0 then (soffitref01_At.l1 k (wrap64 (Int.tdiv x7 10)) x9 (wrap64 (x10 + 1)) x316000 x316001) else (if (Int.tmod x7 10) < 0 then (soffitref01_At.l1 k (wrap64 ((wrap64 (Int.tdiv x7 10)) - 1)) false (wrap64 (x10 + 1)) x316000 x316001) else (soffitref01_At.l1 k (wrap64 (Int.tdiv x7 10)) false (wrap64 (x10 + 1)) x316000 x316001))) else (some (x7, x9, 0))
end
def soffitref01_At.f (k : Nat) (a0_0 : Int) (a0_1 : Int) (a1 : Int) : Option (Int × Bool × Int) := if a1 < 0 then (soffitref01_At.j0 k a1 true a0_0 a0_1) else (soffitref01_At.j0 k a1 (decide (a1 > 6)) a0_0 a0_1)
theorem soffitref01_At.mono_l : ∀ k, (∀ y0 y1 y2 y3, LeO (soffitref01_At.j0 k y0 y1 y2 y3) (soffitref01_At.j0 (k + 1) y0 y1 y2 y3)) ∧ (∀ y0 y1 y2 y3 y4, LeO (soffitref01_At.l0 k y0 y1 y2 y3 y4) (soffitref01_At.l0 (k + 1) y0 y1 y2 y3 y4)) ∧ (∀ y0 y1 y2 y3 y4, LeO (soffitref01_At.l1 k y0 y1 y2 y3 y4) (soffitref01_At.l1 (k + 1) y0 y1 y2 y3 y4))
  | 0 => ⟨fun _ _ _ _ r h => by simp [soffitref01_At.j0] at h, fun _ _ _ _ _ r h => by simp [soffitref01_At.l0] at h, fun _ _ _ _ _ r h => by simp [soffitref01_At.l1] at h⟩
  | k + 1 => by
    obtain ⟨ih0, ih1, ih2⟩ := soffitref01_At.mono_l k
    refine ⟨?_, ?_, ?_⟩
    · intro y0 y1 y2 y3
      unfold soffitref01_At.j0
      repeat' first
      | (with_reducible exact ih0 _ _ _ _)
      | (with_reducible exact ih1 _ _ _ _ _)
      | (with_reducible exact ih2 _ _ _ _ _)
      | (with_reducible exact soffitref01_Sound.mono _ _ _)
      | (with_reducible exact LeO.refl _)
      | (with_reducible exact LeO.none _)
      | (with_reducible refine LeO.ite ?_ ?_)
      | (with_reducible refine LeO.bind ?_ (fun _ => ?_))
      | exact ih0 _ _ _ _
      | exact ih1 _ _ _ _ _
      | exact ih2 _ _ _ _ _
      | exact soffitref01_Sound.mono _ _ _
      | exact LeO.none _
      | refine LeO.ite ?_ ?_
      | refine LeO.bind ?_ (fun _ => ?_)
    · intro y0 y1 y2 y3 y4
      unfold soffitref01_At.l0
      repeat' first
      | (with_reducible exact ih0 _ _ _ _)
      | (with_reducible exact ih1 _ _ _ _ _)
      | (with_reducible exact ih2 _ _ _ _ _)
      | (with_reducible exact soffitref01_Sound.mono _ _ _)
      | (with_reducible exact LeO.refl _)
      | (with_reducible exact LeO.none _)
      | (with_reducible refine LeO.ite ?_ ?_)
      | (with_reducible refine LeO.bind ?_ (fun _ => ?_))
      | exact ih0 _ _ _ _
      | exact ih1 _ _ _ _ _
      | exact ih2 _ _ _ _ _
      | exact soffitref01_Sound.mono _ _ _
      | exact LeO.none _
      | refine LeO.ite ?_ ?_
      | refine LeO.bind ?_ (fun _ => ?_)
    · intro y0 y1 y2 y3 y4
      unfold soffitref01_At.l1
      repeat' first
      | (with_reducible exact ih0 _ _ _ _)
      | (with_reducible exact ih1 _ _ _ _ _)
      | (with_reducible exact ih2 _ _ _ _ _)
      | (with_reducible exact soffitref01_Sound.mono _ _ _)
      | (with_reducible exact LeO.refl _)
      | (with_reducible exact LeO.none _)
      | (with_reducible refine LeO.ite ?_ ?_)
      | (with_reducible refine LeO.bind ?_ (fun _ => ?_))
      | exact ih0 _ _ _ _
      | exact ih1 _ _ _ _ _
      | exact ih2 _ _ _ _ _
      | exact soffitref01_Sound.mono _ _ _
      | exact LeO.none _
      | refine LeO.ite ?_ ?_
      | refine LeO.bind ?_ (fun _ => ?_)
theorem soffitref01_At.mono : ∀ a0 a1 a2 k, LeO (soffitref01_At.f k a0 a1 a2) (soffitref01_At.f (k + 1) a0 a1 a2) := by
  intro a0 a1 a2 k
  obtain ⟨ih0, ih1, ih2⟩ := soffitref01_At.mono_l k
  unfold soffitref01_At.f
  repeat' first
      | (with_reducible exact ih0 _ _ _ _)
      | (with_reducible exact ih1 _ _ _ _ _)
      | (with_reducible exact ih2 _ _ _ _ _)
      | (with_reducible exact soffitref01_Sound.mono _ _ _)
      | (with_reducible exact LeO.refl _)
      | (with_reducible exact LeO.none _)
      | (with_reducible refine LeO.ite ?_ ?_)
      | (with_reducible refine LeO.bind ?_ (fun _ => ?_))
      | exact ih0 _ _ _ _
      | exact ih1 _ _ _ _ _
      | exact ih2 _ _ _ _ _
      | exact soffitref01_Sound.mono _ _ _
      | exact LeO.none _
      | refine LeO.ite ?_ ?_
      | refine LeO.bind ?_ (fun _ => ?_)
set_option maxHeartbeats 8000000 in
set_option maxRecDepth 100000 in
theorem soffitref01_At.calls (k : Nat) (a0_0 : Int) (a0_1 : Int) (a1 : Int) (r1 : Int) (r2 : Bool) (r3 : Int) (w : World) (h : soffitref01_At.f k a0_0 a0_1 a1 = some (r1, r2, r3)) :
    Calls Tryd.prog 21 #[.agg #[.int .i64 a0_0, .int .i64 a0_1], .int .i64 a1] w fun e w' => e = .returned (.tuple #[.int .i64 r1, .bool r2, .int .i64 r3]) ∧ Below w.heap.size w w' := by
  have hu23 := Tryd.underlying23
  have HB := Aside0.mk (Below.refl w.heap.size w)
  have H : (if a1 < 0 then (soffitref01_At.j0 k a1 true a0_0 a0_1) else (soffitref01_At.j0 k a1 (decide (a1 > 6)) a0_0 a0_1)) = some (r1, r2, r3) := h
  clear h
  have HC3 := Aside0.mk H
  clear H
  go_enter Tryd.func21, Tryd.ntmps21
  go_upto_region 1 with (first | ((with_reducible refine gate_dst (N := 2) rfl ?_); refine box_event ?hg (N := 2) ?hd (cs := #[.int .i64 a0_0, .int .i64 a0_1]) (t := 23) ?hr ?_; (case hd => rfl); (case hg => rfl); (case hr => first | (go_simp; done) | (go_simp; rfl)); intro gb315 hg w4 hbox hb; have n0_ := Aside0.mk (below_step (by repeat (first | (with_reducible first | exact HB.out | apply below_alloc | apply pw_below_drewN | apply below_drew1) | exact HB.out)) hb); have n1_ := Aside0.mk (hbox); have n2_ := Aside0.mk ((by rw [hg]; exact (below_size (by repeat (first | (with_reducible first | exact HB.out | apply below_alloc | apply pw_below_drewN | apply below_drew1) | exact HB.out))) : w.heap.size ≤ gb315)); have n3_ := Aside0.mk ((by rw [hg]; exact (below_size (by repeat (first | (with_reducible first | exact HB.out | apply below_alloc | apply pw_below_drewN | apply below_drew1) | exact HB.out))) : w.heap.size ≤ gb315)); clear HB; have HB := n0_; have BK315 := n1_; have GW315 := n2_; have GE315 := n3_; clear n0_ n1_ n2_ n3_; clear hb hbox hg))
  (try simp only [Act.put, List.setIfInBounds_toArray, List.set_cons_zero, List.set_cons_succ])
  go_cut [17] (fun v17 wc => ∃ (kq : Nat) (x17_2 : Bool), v17 = .bool x17_2 ∧ Aside0 (soffitref01_At.j0 kq a1 x17_2 a0_0 a0_1 = some (r1, r2, r3)) ∧ Aside0 (kq ≤ k) ∧ Aside0 (wc.heap[gb315]? = some (.cells #[.int .i64 a0_0, .int .i64 a0_1] 23 (0, 0))) ∧ Aside0 (Below w.heap.size w wc))
  case first =>
    have H := HC3.out
    clear HC3
    by_cases c5 : a1 < 0
    · rw [if_pos c5] at H
      have c5b0 : decide (a1 < 0) = true := decide_eq_true c5
      clear c5
      (first | rw [c5b0] | (simp only [i64_w, i32_w]; rw [c5b0]) | skip)
      have H' := Aside0.mk H
      clear H
      go_wp2
      go_meet
      case rel => exact ⟨_, (true), (by first | rfl | (simp; done) | (simp [*]; done)), H', ⟨by first | omega | exact Nat.le_refl _⟩, ⟨by (with_reducible repeat (first | refine blk_drewN ?_ _ | refine blk_drew ?_ | refine blk_alloc ?_ _)); exact BK315.out⟩, ⟨by repeat (first | (with_reducible first | exact HB.out | apply below_alloc | apply pw_below_drewN | apply below_drew1 | refine below_set ?_ GE315.out) | exact HB.out)⟩⟩
    · rw [if_neg c5] at H
      have c5b0 : decide (a1 < 0) = false := decide_eq_false c5
      clear c5
      (first | rw [c5b0] | (simp only [i64_w, i32_w]; rw [c5b0]) | skip)
      have H' := Aside0.mk H
      clear H
      go_wp2
      go_meet
      case rel => exact ⟨_, (decide (a1 > 6)), (by first | rfl | (simp; done) | (simp [*]; done)), H', ⟨by first | omega | exact Nat.le_refl _⟩, ⟨by (with_reducible repeat (first | refine blk_drewN ?_ _ | refine blk_drew ?_ | refine blk_alloc ?_ _)); exact BK315.out⟩, ⟨by repeat (first | (with_reducible first | exact HB.out | apply below_alloc | apply pw_below_drewN | apply below_drew1 | refine below_set ?_ GE315.out) | exact HB.out)⟩⟩
  case rest =>
    clear HC3
    try clear c2
    try clear p2
    try clear c5
    try clear c5b0
    obtain ⟨kq, x17_2, rfl, HA, HJ2, BK315, HB⟩ := hcut
    cases kq with
    | zero => exact absurd HA.out (by simp [soffitref01_At.j0])
    | succ kj2 =>
      have H := HA.out
      clear HA
      simp only [soffitref01_At.j0] at H
      by_cases c6 : x17_2 = true
      · subst c6
        have H1 : (some (0, false, 1)) = some (r1, r2, r3) := by rw [if_pos rfl] at H; exact H
        clear H
        have H := H1
        clear H1
        simp only [Option.some.injEq, Prod.mk.injEq] at H
        obtain ⟨rfl, rfl, rfl⟩ := H
        go_wp2
        go_ret3
        exact ⟨by first | rfl | (simp [errW_none, errW_some] <;> rfl) | (simp [*, errW_none, errW_some] <;> rfl), by repeat (first | (with_reducible first | exact HB.out | apply below_alloc | apply pw_below_drewN | apply below_drew1 | refine below_set ?_ GE315.out) | exact HB.out)⟩
      · replace c6 := Bool.eq_false_iff.mpr c6
        subst c6
        have H1 : ((soffitref01_Sound.f kj2 a0_0 a0_1).bind fun t316 => (if t316 = true then (soffitref01_At.l0 kj2 a1 a0_0 a0_1 a0_0 a0_1) else (some (0, false, 2)))) = some (r1, r2, r3) := by rw [if_neg (show ¬ (false = true) by decide)] at H; exact H
        clear H
        have H := H1
        clear H1
        replace H := Option.bind_eq_some_iff.mp H
        obtain ⟨t316, A70, H⟩ := H
        replace H : (if t316 = true then (soffitref01_At.l0 kj2 a1 a0_0 a0_1 a0_0 a0_1) else (some (0, false, 2))) = some (r1, r2, r3) := H
        have A7 := Aside0.mk A70
        clear A70
        by_cases c8 : t316 = true
        · subst c8
          have H1 : (soffitref01_At.l0 kj2 a1 a0_0 a0_1 a0_0 a0_1) = some (r1, r2, r3) := by rw [if_pos rfl] at H; exact H
          clear H
          have H := H1
          clear H1
          have H' := Aside0.mk H
          clear H
          have hcz9_0 : wc.cell? ⟨gb315, 0, none⟩ = some (.int .i64 a0_0) := (blk_cell BK315.out 0).trans rfl
          have hcz9_1 : wc.cell? ⟨gb315, 1, none⟩ = some (.int .i64 a0_1) := (blk_cell BK315.out 1).trans rfl
          have hfz9_0 := blk_frozen BK315.out 0
          have hfz9_1 := blk_frozen BK315.out 1
          go_wp2_with (first | ((with_reducible refine gate_callee (f := 13) rfl ?_); refine goesL_ (some 19) rfl rfl Tryd.func13 (by kernel_rfl) rfl #[.agg #[.int .i64 a0_0, .int .i64 a0_1]] rfl (by (try simp only [List.map_toArray, List.map_cons, List.map_nil]); first | done | rfl | (simp only [List.length_drop, List.length_take]; rfl)) ?_; (with_reducible refine (soffitref01_Sound.calls kj2 a0_0 a0_1 true _ A7.out).mono ?_); rintro e w10 ⟨rfl, hb⟩; refine ⟨_, rfl, ?_⟩; have n0_ := Aside0.mk (blk_below (g := gb315) (o := .cells #[.int .i64 a0_0, .int .i64 a0_1] 23 (0, 0)) (by (with_reducible repeat (first | refine blk_drewN ?_ _ | refine blk_drew ?_ | refine blk_alloc ?_ _)); exact BK315.out) hb); have n1_ := Aside0.mk (below_step (by repeat (first | (with_reducible first | exact HB.out | apply below_alloc | apply pw_below_drewN | apply below_drew1 | refine below_set ?_ GE315.out) | exact HB.out)) hb); clear BK315; clear HB; have BK315 := n0_; have HB := n1_; clear n0_ n1_; (try clear hb); (try clear hb2); (try clear hk); (try clear hi); have hcz11_0 : w10.cell? ⟨gb315, 0, none⟩ = some (.int .i64 a0_0) := (blk_cell BK315.out 0).trans rfl; have hcz11_1 : w10.cell? ⟨gb315, 1, none⟩ = some (.int .i64 a0_1) := (blk_cell BK315.out 1).trans rfl; have hfz11_0 := blk_frozen BK315.out 0; have hfz11_1 := blk_frozen BK315.out 1))
          (try simp only [Act.put, List.setIfInBounds_toArray, List.set_cons_succ, List.set_cons_zero])
          go_loopg [7, 8] kj2 (fun kq v7 v8 w' => ∃ (x7_2 : Int) (x8_2 : Int), v7 = .int .i64 x7_2 ∧ v8 = .int .i64 x8_2 ∧ Aside0 (soffitref01_At.l0 kq a1 x7_2 x8_2 a0_0 a0_1 = some (r1, r2, r3)) ∧ Aside0 (kq ≤ kj2) ∧ Aside0 (w'.heap[gb315]? = some (.cells #[.int .i64 a0_0, .int .i64 a0_1] 23 (0, 0))) ∧ Aside0 (Below w.heap.size w w'))
          case atStart => exact ⟨(a0_0), (a0_1), (by first | rfl | (simp; done) | (simp [*]; done)), (by first | rfl | (simp; done) | (simp [*]; done)), H', ⟨Nat.le_refl _⟩, ⟨by (with_reducible repeat (first | refine blk_drewN ?_ _ | refine blk_drew ?_ | refine blk_alloc ?_ _)); exact BK315.out⟩, ⟨by repeat (first | (with_reducible first | exact HB.out | apply below_alloc | apply pw_below_drewN | apply below_drew1 | refine below_set ?_ GE315.out) | exact HB.out)⟩⟩
          case round =>
            clear H'
            try clear c1
            try clear c2
            try clear p2
            try clear c5
            try clear c5b0
            try clear c6
            try clear c8
            try clear hcz11_0
            try clear hcz11_1
            try clear hcz9_0
            try clear hcz9_1
            try clear hfz11_0
            try clear hfz11_1
            try clear hfz9_0
            try clear hfz9_1
            try clear p2
            obtain ⟨x7_2, x8_2, rfl, rfl, HA, HK2, BK315, HB⟩ := hrel
            cases gk with
            | zero => exact absurd HA.out (by simp [soffitref01_At.l0])
            | succ k2 =>
              have H := HA.out
              clear HA
              simp only [soffitref01_At.l0] at H
              by_cases c12 : x8_2 < a1
              · rw [if_pos c12] at H
                have c12b0 : decide (x8_2 < a1) = true := decide_eq_true c12
                clear c12
                have H' := Aside0.mk H
                clear H
                go_wp2
                go_roundg k2
                case measure => have := HJ2.out; have := HK2.out; omega
                case rel => exact ⟨(wrap64 (x7_2 * 10)), (wrap64 (x8_2 + 1)), (by first | rfl | (simp; done) | (simp [*]; done)), (by first | rfl | (simp; done) | (simp [*]; done)), H', ⟨by have := HJ2.out; have := HK2.out; omega⟩, ⟨by (with_reducible repeat (first | refine blk_drewN ?_ _ | refine blk_drew ?_ | refine blk_alloc ?_ _)); exact BK315.out⟩, ⟨by repeat (first | (with_reducible first | exact HB.out | apply below_alloc | apply pw_below_drewN | apply below_drew1 | refine below_set ?_ GE315.out) | exact HB.out)⟩⟩
              · rw [if_neg c12] at H
                have c12b0 : decide (x8_2 < a1) = false := decide_eq_false c12
                clear c12
                have H' := Aside0.mk H
                clear H
                go_wp2
                (try simp only [Act.put, List.setIfInBounds_toArray, List.set_cons_succ, List.set_cons_zero])
                go_loopg [7, 9, 10] k2 (fun kq v7 v9 v10 w' => ∃ (x7_3 : Int) (x9_3 : Bool) (x10_3 : Int), v7 = .int .i64 x7_3 ∧ v9 = .bool x9_3 ∧ v10 = .int .i64 x10_3 ∧ Aside0 (soffitref01_At.l1 kq x7_3 x9_3 x10_3 a0_0 a0_1 = some (r1, r2, r3)) ∧ Aside0 (kq ≤ k2) ∧ Aside0 (w'.heap[gb315]? = some (.cells #[.int .i64 a0_0, .int .i64 a0_1] 23 (0, 0))) ∧ Aside0 (Below w.heap.size w w'))
                case atStart => exact ⟨(x7_2), (true), (a1), (by first | rfl | (simp; done) | (simp [*]; done)), (by first | rfl | (simp; done) | (simp [*]; done)), (by first | rfl | (simp; done) | (simp [*]; done)), H', ⟨Nat.le_refl _⟩, ⟨by (with_reducible repeat (first | refine blk_drewN ?_ _ | refine blk_drew ?_ | refine blk_alloc ?_ _)); exact BK315.out⟩, ⟨by repeat (first | (with_reducible first | exact HB.out | apply below_alloc | apply pw_below_drewN | apply below_drew1 | refine below_set ?_ GE315.out) | exact HB.out)⟩⟩
                case round =>
                  clear H'
                  try clear c1
                  try clear c2
                  try clear p2
                  try clear c5
                  try clear c5b0
                  try clear c6
                  try clear p6
                  try clear c8
                  try clear c12
                  try clear c12b0
                  try clear hcz11_0
                  try clear hcz11_1
                  try clear hcz9_0
                  try clear hcz9_1
                  try clear hfz11_0
                  try clear hfz11_1
                  try clear hfz9_0
                  try clear hfz9_1
                  try clear p2
                  obtain ⟨x7_3, x9_3, x10_3, rfl, rfl, rfl, HA, HK3, BK315, HB⟩ := hrel
                  cases gk with
                  | zero => exact absurd HA.out (by simp [soffitref01_At.l1])
                  | succ k3 =>
                    have H := HA.out
                    clear HA
                    simp only [soffitref01_At.l1] at H
                    by_cases c13 : x10_3 < a0_1
                    · rw [if_pos c13] at H
                      have c13b0 : decide (x10_3 < a0_1) = true := decide_eq_true c13
                      clear c13
                      by_cases c14 : (Int.tmod x7_3 10) = 0
                      · rw [if_pos c14] at H
                        have c14b0 : ((Int.tmod x7_3 10) == 0) = true := beq_iff_eq.mpr c14
                        have c14b1 : ((Int.tmod x7_3 10) != 0) = false := bne_eq_false_iff_eq.mpr c14
                        clear c14
                        have H' := Aside0.mk H
                        clear H
                        have hcz15_0 : wr.cell? ⟨gb315, 0, none⟩ = some (.int .i64 a0_0) := (blk_cell BK315.out 0).trans rfl
                        have hcz15_1 : wr.cell? ⟨gb315, 1, none⟩ = some (.int .i64 a0_1) := (blk_cell BK315.out 1).trans rfl
                        have hfz15_0 := blk_frozen BK315.out 0
                        have hfz15_1 := blk_frozen BK315.out 1
                        go_wp2
                        go_roundg k3
                        case measure => have := HJ2.out; have := HK2.out; have := HK3.out; omega
                        case rel => exact ⟨(wrap64 (Int.tdiv x7_3 10)), (x9_3), (wrap64 (x10_3 + 1)), (by first | rfl | (simp; done) | (simp [*]; done)), (by first | rfl | (simp; done) | (simp [*]; done)), (by first | rfl | (simp; done) | (simp [*]; done)), H', ⟨by have := HJ2.out; have := HK2.out; have := HK3.out; omega⟩, ⟨by (with_reducible repeat (first | refine blk_drewN ?_ _ | refine blk_drew ?_ | refine blk_alloc ?_ _)); exact BK315.out⟩, ⟨by repeat (first | (with_reducible first | exact HB.out | apply below_alloc | apply pw_below_drewN | apply below_drew1 | refine below_set ?_ GE315.out) | exact HB.out)⟩⟩
                      · rw [if_neg c14] at H
                        have c14b0 : ((Int.tmod x7_3 10) == 0) = false := beq_eq_false_iff_ne.mpr c14
                        have c14b1 : ((Int.tmod x7_3 10) != 0) = true := bne_iff_ne.mpr c14
                        by_cases c16 : (Int.tmod x7_3 10) < 0
                        · rw [if_pos c16] at H
                          have c16b0 : decide ((Int.tmod x7_3 10) < 0) = true := decide_eq_true c16
                          clear c16
                          have H' := Aside0.mk H
                          clear H
                          have hcz17_0 : wr.cell? ⟨gb315, 0, none⟩ = some (.int .i64 a0_0) := (blk_cell BK315.out 0).trans rfl
                          have hcz17_1 : wr.cell? ⟨gb315, 1, none⟩ = some (.int .i64 a0_1) := (blk_cell BK315.out 1).trans rfl
                          have hfz17_0 := blk_frozen BK315.out 0
                          have hfz17_1 := blk_frozen BK315.out 1
                          go_wp2
                          go_roundg k3
                          case measure => have := HJ2.out; have := HK2.out; have := HK3.out; omega
                          case rel => exact ⟨(wrap64 ((wrap64 (Int.tdiv x7_3 10)) - 1)), (false), (wrap64 (x10_3 + 1)), (by first | rfl | (simp; done) | (simp [*]; done)), (by first | rfl | (simp; done) | (simp [*]; done)), (by first | rfl | (simp; done) | (simp [*]; done)), H', ⟨by have := HJ2.out; have := HK2.out; have := HK3.out; omega⟩, ⟨by (with_reducible repeat (first | refine blk_drewN ?_ _ | refine blk_drew ?_ | refine blk_alloc ?_ _)); exact BK315.out⟩, ⟨by repeat (first | (with_reducible first | exact HB.out | apply below_alloc | apply pw_below_drewN | apply below_drew1 | refine below_set ?_ GE315.out) | exact HB.out)⟩⟩
                        · rw [if_neg c16] at H
                          have c16b0 : decide ((Int.tmod x7_3 10) < 0) = false := decide_eq_false c16
                          clear c16
                          have H' := Aside0.mk H
                          clear H
                          have hcz18_0 : wr.cell? ⟨gb315, 0, none⟩ = some (.int .i64 a0_0) := (blk_cell BK315.out 0).trans rfl
                          have hcz18_1 : wr.cell? ⟨gb315, 1, none⟩ = some (.int .i64 a0_1) := (blk_cell BK315.out 1).trans rfl
                          have hfz18_0 := blk_frozen BK315.out 0
                          have hfz18_1 := blk_frozen BK315.out 1
                          go_wp2
                          go_roundg k3
                          case measure => have := HJ2.out; have := HK2.out; have := HK3.out; omega
                          case rel => exact ⟨(wrap64 (Int.tdiv x7_3 10)), (false), (wrap64 (x10_3 + 1)), (by first | rfl | (simp; done) | (simp [*]; done)), (by first | rfl | (simp; done) | (simp [*]; done)), (by first | rfl | (simp; done) | (simp [*]; done)), H', ⟨by have := HJ2.out; have := HK2.out; have := HK3.out; omega⟩, ⟨by (with_reducible repeat (first | refine blk_drewN ?_ _ | refine blk_drew ?_ | refine blk_alloc ?_ _)); exact BK315.out⟩, ⟨by repeat (first | (with_reducible first | exact HB.out | apply below_alloc | apply pw_below_drewN | apply below_drew1 | refine below_set ?_ GE315.out) | exact HB.out)⟩⟩
                    · rw [if_neg c13] at H
                      have c13b0 : decide (x10_3 < a0_1) = false := decide_eq_false c13
                      clear c13
                      simp only [Option.some.injEq, Prod.mk.injEq] at H
                      obtain ⟨rfl, rfl, rfl⟩ := H
                      have hcz19_0 : wr.cell? ⟨gb315, 0, none⟩ = some (.int .i64 a0_0) := (blk_cell BK315.out 0).trans rfl
                      have hcz19_1 : wr.cell? ⟨gb315, 1, none⟩ = some (.int .i64 a0_1) := (blk_cell BK315.out 1).trans rfl
                      have hfz19_0 := blk_frozen BK315.out 0
                      have hfz19_1 := blk_frozen BK315.out 1
                      go_wp2
                      go_ret3
                      exact ⟨by first | rfl | (simp [errW_none, errW_some] <;> rfl) | (simp [*, errW_none, errW_some] <;> rfl), by repeat (first | (with_reducible first | exact HB.out | apply below_alloc | apply pw_below_drewN | apply below_drew1 | refine below_set ?_ GE315.out) | exact HB.out)⟩
        · replace c8 := Bool.eq_false_iff.mpr c8
          subst c8
          have H1 : (some (0, false, 2)) = some (r1, r2, r3) := by rw [if_neg (show ¬ (false = true) by decide)] at H; exact H
          clear H
          have H := H1
          clear H1
          simp only [Option.some.injEq, Prod.mk.injEq] at H
          obtain ⟨rfl, rfl, rfl⟩ := H
          have hcz20_0 : wc.cell? ⟨gb315, 0, none⟩ = some (.int .i64 a0_0) := (blk_cell BK315.out 0).trans rfl
          have hcz20_1 : wc.cell? ⟨gb315, 1, none⟩ = some (.int .i64 a0_1) := (blk_cell BK315.out 1).trans rfl
          have hfz20_0 := blk_frozen BK315.out 0
          have hfz20_1 := blk_frozen BK315.out 1
          go_wp2_with (first | ((with_reducible refine gate_callee (f := 13) rfl ?_); refine goesL_ (some 19) rfl rfl Tryd.func13 (by kernel_rfl) rfl #[.agg #[.int .i64 a0_0, .int .i64 a0_1]] rfl (by (try simp only [List.map_toArray, List.map_cons, List.map_nil]); first | done | rfl | (simp only [List.length_drop, List.length_take]; rfl)) ?_; (with_reducible refine (soffitref01_Sound.calls kj2 a0_0 a0_1 false _ A7.out).mono ?_); rintro e w21 ⟨rfl, hb⟩; refine ⟨_, rfl, ?_⟩; have n0_ := Aside0.mk (blk_below (g := gb315) (o := .cells #[.int .i64 a0_0, .int .i64 a0_1] 23 (0, 0)) (by (with_reducible repeat (first | refine blk_drewN ?_ _ | refine blk_drew ?_ | refine blk_alloc ?_ _)); exact BK315.out) hb); have n1_ := Aside0.mk (below_step (by repeat (first | (with_reducible first | exact HB.out | apply below_alloc | apply pw_below_drewN | apply below_drew1 | refine below_set ?_ GE315.out) | exact HB.out)) hb); clear BK315; clear HB; have BK315 := n0_; have HB := n1_; clear n0_ n1_; (try clear hb); (try clear hb2); (try clear hk); (try clear hi)))
          go_ret3
          exact ⟨by first | rfl | (simp [errW_none, errW_some] <;> rfl) | (simp [*, errW_none, errW_some] <;> rfl), by repeat (first | (with_reducible first | exact HB.out | apply below_alloc | apply pw_below_drewN | apply below_drew1 | refine below_set ?_ GE315.out) | exact HB.out)⟩
end Go.Proofs.YtgkemhgihbfmmaaDoor.PA
end
section
namespace Go.Proofs.YtgkemhgihbfmmaaDoor.PA
open Go.RowKit Go.Proofs.YtgkemhgihbfmmaaDoorW.PrintWords Go.Proofs.YtgkemhgihbfmmaaDoorW.PrintLast Go.Proofs.YtgkemhgihbfmmaaDoorW.PrintMore
attribute [local go_sem] max2_int min2_int max_two min_two max_three min_three max_four min_four
set_option linter.unusedVariables false
set_option linter.unusedSimpArgs false
def soffitlaw01_DeciUnits.f (k : Nat) (a0_0 : Int) (a0_1 : Int) (a1 : Int) : Option (Bool) := (deci_At.f k a0_0 a0_1 a1).bind fun bt318 => ((soffitref01_At.f k a0_0 a0_1 a1).bind fun bt321 => ((soffitlaw01_awake.f k).bind fun t324 => (if t324 = true then (if bt318.1 = bt321.1 then (if (bt318.2.1 == bt321.2.1) = true then (some (bt318.2.2 == bt321.2.2)) else (some false)) else (some false)) else (some false))))
theorem soffitlaw01_DeciUnits.mono : ∀ a0 a1 a2 k, LeO (soffitlaw01_DeciUnits.f k a0 a1 a2) (soffitlaw01_DeciUnits.f (k + 1) a0 a1 a2) := by
  intro a0 a1 a2 k
  unfold soffitlaw01_DeciUnits.f
  repeat' first
      | (with_reducible exact deci_At.mono _ _ _ _)
      | (with_reducible exact soffitlaw01_awake.mono _)
      | (with_reducible exact soffitref01_At.mono _ _ _ _)
      | (with_reducible exact LeO.refl _)
      | (with_reducible exact LeO.none _)
      | (with_reducible refine LeO.ite ?_ ?_)
      | (with_reducible refine LeO.bind ?_ (fun _ => ?_))
      | exact deci_At.mono _ _ _ _
      | exact soffitlaw01_awake.mono _
      | exact soffitref01_At.mono _ _ _ _
      | exact LeO.none _
      | refine LeO.ite ?_ ?_
      | refine LeO.bind ?_ (fun _ => ?_)
set_option maxHeartbeats 8000000 in
set_option maxRecDepth 100000 in
theorem soffitlaw01_DeciUnits.calls (k : Nat) (a0_0 : Int) (a0_1 : Int) (a1 : Int) (r : Bool) (w : World) (hT : Tabs w) (hr : r = true) (h : soffitlaw01_DeciUnits.f k a0_0 a0_1 a1 = some r) :
    Calls Tryd.prog 6 #[.agg #[.int .i64 a0_0, .int .i64 a0_1], .int .i64 a1] w fun e w' => e = .returned (.bool r) ∧ Below w.heap.size w w' := by
  have hu23 := Tryd.underlying23
  have HT := Aside0.mk hT
  clear hT
  have HR := Aside0.mk hr
  clear hr
  have HB := Aside0.mk (Below.refl w.heap.size w)
  have H : ((deci_At.f k a0_0 a0_1 a1).bind fun bt318 => ((soffitref01_At.f k a0_0 a0_1 a1).bind fun bt321 => ((soffitlaw01_awake.f k).bind fun t324 => (if t324 = true then (if bt318.1 = bt321.1 then (if (bt318.2.1 == bt321.2.1) = true then (some (bt318.2.2 == bt321.2.2)) else (some false)) else (some false)) else (some false))))) = some r := h
  clear h
  replace H := Option.bind_eq_some_iff.mp H
  obtain ⟨⟨t318, t319, t320⟩, A30, H⟩ := H
  replace H : ((soffitref01_At.f k a0_0 a0_1 a1).bind fun bt321 => ((soffitlaw01_awake.f k).bind fun t324 => (if t324 = true then (if t318 = bt321.1 then (if (t319 == bt321.2.1) = true then (some (t320 == bt321.2.2)) else (some false)) else (some false)) else (some false)))) = some r := H
  have A3 := Aside0.mk A30
  clear A30
  replace H := Option.bind_eq_some_iff.mp H
  obtain ⟨⟨t321, t322, t323⟩, A40, H⟩ := H
  replace H : ((soffitlaw01_awake.f k).bind fun t324 => (if t324 = true then (if t318 = t321 then (if (t319 == t322) = true then (some (t320 == t323)) else (some false)) else (some false)) else (some false))) = some r := H
  have A4 := Aside0.mk A40
  clear A40
  replace H := Option.bind_eq_some_iff.mp H
  obtain ⟨t324, A50, H⟩ := H
  replace H : (if t324 = true then (if t318 = t321 then (if (t319 == t322) = true then (some (t320 == t323)) else (some false)) else (some false)) else (some false)) = some r := H
  have A5 := Aside0.mk A50
  clear A50
  by_cases c6 : t324 = true
  · subst c6
    have H1 : (if t318 = t321 then (if (t319 == t322) = true then (some (t320 == t323)) else (some false)) else (some false)) = some r := by rw [if_pos rfl] at H; exact H
    clear H
    have H := H1
    clear H1
    by_cases c7 : t318 = t321
    · rw [if_pos c7] at H
      have c7b0 : (t318 == t321) = true := beq_iff_eq.mpr c7
      have c7b1 : (t318 != t321) = false := bne_eq_false_iff_eq.mpr c7
      clear c7
      by_cases c8 : (t319 == t322) = true
      · rw [if_pos c8] at H
        have c8b0 : (t319 == t322) = true := c8
        (try (have c8b1 : decide (t319 = t322) = true := by simpa using c8))
        (try (have c8b2 : (t319 == t322) = true := by simpa using c8))
        clear c8
        obtain rfl := Option.some.inj H
        go_enter Tryd.func6, Tryd.ntmps6
        go_wp2_with (first | ((with_reducible refine gate_dst (N := 2) rfl ?_); refine box_event ?hg (N := 2) ?hd (cs := #[.int .i64 a0_0, .int .i64 a0_1]) (t := 23) ?hr ?_; (case hd => rfl); (case hg => rfl); (case hr => first | (go_simp; done) | (go_simp; rfl)); intro gb317 hg w9 hbox hb; have n0_ := Aside0.mk (below_step (by repeat (first | (with_reducible first | exact HB.out | apply below_alloc | apply pw_below_drewN | apply below_drew1) | exact HB.out)) hb); have n1_ := Aside0.mk (hbox); have n2_ := Aside0.mk ((by rw [hg]; exact (below_size (by repeat (first | (with_reducible first | exact HB.out | apply below_alloc | apply pw_below_drewN | apply below_drew1) | exact HB.out))) : w.heap.size ≤ gb317)); have n3_ := Aside0.mk ((by rw [hg]; exact (below_size (by repeat (first | (with_reducible first | exact HB.out | apply below_alloc | apply pw_below_drewN | apply below_drew1) | exact HB.out))) : w.heap.size ≤ gb317)); clear HB; have HB := n0_; have BK317 := n1_; have GW317 := n2_; have GE317 := n3_; clear n0_ n1_ n2_ n3_; clear hb hbox hg; have hcz10_0 : w9.cell? ⟨gb317, 0, none⟩ = some (.int .i64 a0_0) := (blk_cell BK317.out 0).trans rfl; have hcz10_1 : w9.cell? ⟨gb317, 1, none⟩ = some (.int .i64 a0_1) := (blk_cell BK317.out 1).trans rfl; have hfz10_0 := blk_frozen BK317.out 0; have hfz10_1 := blk_frozen BK317.out 1) | ((with_reducible refine gate_callee (f := 20) rfl ?_); refine goesL_ (some 14) rfl rfl Tryd.func20 (by kernel_rfl) rfl #[.agg #[.int .i64 a0_0, .int .i64 a0_1], .int .i64 a1] rfl (by (try simp only [List.map_toArray, List.map_cons, List.map_nil]); first | done | rfl | (simp only [List.length_drop, List.length_take]; rfl)) ?_; (with_reducible refine (deci_At.calls k a0_0 a0_1 a1 t318 t319 t320 _ A3.out).mono ?_); rintro e w11 ⟨rfl, hb⟩; refine ⟨_, rfl, ?_⟩; have n0_ := Aside0.mk (blk_below (g := gb317) (o := .cells #[.int .i64 a0_0, .int .i64 a0_1] 23 (0, 0)) (by (with_reducible repeat (first | refine blk_drewN ?_ _ | refine blk_drew ?_ | refine blk_alloc ?_ _)); exact BK317.out) hb); have n1_ := Aside0.mk (below_step (by repeat (first | (with_reducible first | exact HB.out | apply below_alloc | apply pw_below_drewN | apply below_drew1 | refine below_set ?_ GE317.out) | exact HB.out)) hb); clear BK317; clear HB; have BK317 := n0_; have HB := n1_; clear n0_ n1_; (try clear hb); (try clear hb2); (try clear hk); (try clear hi); have hcz12_0 : w11.cell? ⟨gb317, 0, none⟩ = some (.int .i64 a0_0) := (blk_cell BK317.out 0).trans rfl; have hcz12_1 : w11.cell? ⟨gb317, 1, none⟩ = some (.int .i64 a0_1) := (blk_cell BK317.out 1).trans rfl; have hfz12_0 := blk_frozen BK317.out 0; have hfz12_1 := blk_frozen BK317.out 1) | ((with_reducible refine gate_callee (f := 21) rfl ?_); refine goesL_ (some 21) rfl rfl Tryd.func21 (by kernel_rfl) rfl #[.agg #[.int .i64 a0_0, .int .i64 a0_1], .int .i64 a1] rfl (by (try simp only [List.map_toArray, List.map_cons, List.map_nil]); first | done | rfl | (simp only [List.length_drop, List.length_take]; rfl)) ?_; (with_reducible refine (soffitref01_At.calls k a0_0 a0_1 a1 t321 t322 t323 _ A4.out).mono ?_); rintro e w13 ⟨rfl, hb⟩; refine ⟨_, rfl, ?_⟩; have n0_ := Aside0.mk (blk_below (g := gb317) (o := .cells #[.int .i64 a0_0, .int .i64 a0_1] 23 (0, 0)) (by (with_reducible repeat (first | refine blk_drewN ?_ _ | refine blk_drew ?_ | refine blk_alloc ?_ _)); exact BK317.out) hb); have n1_ := Aside0.mk (below_step (by repeat (first | (with_reducible first | exact HB.out | apply below_alloc | apply pw_below_drewN | apply below_drew1 | refine below_set ?_ GE317.out) | exact HB.out)) hb); clear BK317; clear HB; have BK317 := n0_; have HB := n1_; clear n0_ n1_; (try clear hb); (try clear hb2); (try clear hk); (try clear hi)) | ((with_reducible refine gate_callee (f := 11) rfl ?_); refine goesL_ (some 25) rfl rfl Tryd.func11 (by kernel_rfl) rfl #[] rfl (by (try simp only [List.map_toArray, List.map_cons, List.map_nil]); first | done | rfl | (simp only [List.length_drop, List.length_take]; rfl)) ?_; (with_reducible refine (soffitlaw01_awake.calls k  true _ ?side1 A5.out).mono ?_); (case side1 => exact tabs_of HT.out (by repeat (first | (with_reducible first | exact HB.out | apply below_alloc | apply pw_below_drewN | apply below_drew1 | refine below_set ?_ GE317.out) | exact HB.out))); rintro e w14 ⟨rfl, hb⟩; refine ⟨_, rfl, ?_⟩; have n0_ := Aside0.mk (blk_below (g := gb317) (o := .cells #[.int .i64 a0_0, .int .i64 a0_1] 23 (0, 0)) (by (with_reducible repeat (first | refine blk_drewN ?_ _ | refine blk_drew ?_ | refine blk_alloc ?_ _)); exact BK317.out) hb); have n1_ := Aside0.mk (below_step (by repeat (first | (with_reducible first | exact HB.out | apply below_alloc | apply pw_below_drewN | apply below_drew1 | refine below_set ?_ GE317.out) | exact HB.out)) hb); clear BK317; clear HB; have BK317 := n0_; have HB := n1_; clear n0_ n1_; (try clear hb); (try clear hb2); (try clear hk); (try clear hi)))
        go_ret
        exact ⟨by first | rfl | (simp [errW_none, errW_some] <;> rfl) | (simp [*, errW_none, errW_some] <;> rfl), by repeat (first | (with_reducible first | exact HB.out | apply below_alloc | apply pw_below_drewN | apply below_drew1 | refine below_set ?_ GE317.out) | exact HB.out)⟩
      · rw [if_neg c8] at H
        have c8b0 : (t319 == t322) = false := by simpa using c8
        (try (have c8b1 : decide (t319 = t322) = false := by simpa using c8))
        (try (have c8b2 : (t319 == t322) = false := by simpa using c8))
        (try (have c8b3 : ¬ (t319 = t322) := by simpa using c8))
        clear c8
        exact absurd HR.out (by rw [← Option.some.inj H]; simp)
    · rw [if_neg c7] at H
      have c7b0 : (t318 == t321) = false := beq_eq_false_iff_ne.mpr c7
      have c7b1 : (t318 != t321) = true := bne_iff_ne.mpr c7
      exact absurd HR.out (by rw [← Option.some.inj H]; simp)
  · replace c6 := Bool.eq_false_iff.mpr c6
    subst c6
    have H1 : (some false) = some r := by rw [if_neg (show ¬ (false = true) by decide)] at H; exact H
    clear H
    have H := H1
    clear H1
    exact absurd HR.out (by rw [← Option.some.inj H]; simp)
end Go.Proofs.YtgkemhgihbfmmaaDoor.PA
end
section
namespace Go.Proofs.YtgkemhgihbfmmaaDoor.M
def sh : Nat → Int → Int × Int
  | 0, n => (n, 0)
  | s + 1, n => if n % 10 = 0 then sh s (n / 10) else (n, (s : Int) + 1)
theorem sh_zero (s : Nat) : sh s 0 = (0, 0) := by
  induction s with
  | zero => rfl
  | succ s ih => simp [sh, ih]
theorem sh_id (s : Nat) (n : Int) (h : s = 0 ∨ n % 10 ≠ 0) : sh s n = (n, (s : Int)) := by
  cases s with
  | zero => rfl
  | succ s =>
    have h' : ¬ n % 10 = 0 := by omega
    simp [sh, h']
theorem sh_neg (s : Nat) : ∀ n : Int, sh s (-n) = (-(sh s n).1, (sh s n).2) := by
  induction s with
  | zero => intro n; rfl
  | succ s ih =>
    intro n
    by_cases h : n % 10 = 0
    · have h2 : (-n) % 10 = 0 := by omega
      have h3 : (-n) / 10 = -(n / 10) := by omega
      simp only [sh, h, h2, if_true, h3, ih]
    · have h2 : ¬ (-n) % 10 = 0 := by omega
      simp only [sh, h, h2, if_false]
theorem sh_spec (s : Nat) : ∀ n : Int, ∃ t : Nat, t ≤ s ∧ (sh s n).2 = ((s - t : Nat) : Int) ∧ n = (sh s n).1 * 10 ^ t ∧ ((sh s n).2 = 0 ∨ (sh s n).1 % 10 ≠ 0) := by
  induction s with
  | zero => intro n; exact ⟨0, Nat.le_refl _, rfl, by simp [sh], .inl rfl⟩
  | succ s ih =>
    intro n
    by_cases h : n % 10 = 0
    · obtain ⟨t, h1, h2, h3, h4⟩ := ih (n / 10)
      refine ⟨t + 1, by omega, ?_, ?_, ?_⟩
      · simp only [sh, h, if_true]; rw [h2]; congr 1; omega
      · simp only [sh, h, if_true]
        have e : n = (n / 10) * 10 := by omega
        rw [Int.pow_succ, ← Int.mul_assoc, ← h3]; exact e
      · simp only [sh, h, if_true]; exact h4
    · refine ⟨0, Nat.zero_le _, ?_, ?_, ?_⟩
      · simp [sh, h]
      · simp [sh, h]
      · simp only [sh, h, if_false]; exact .inr h
theorem sh_nonneg (s : Nat) : ∀ n : Int, 0 ≤ n → 0 ≤ (sh s n).1 ∧ (sh s n).1 ≤ n := by
  induction s with
  | zero => intro n h; simp only [sh]; omega
  | succ s ih =>
    intro n h
    by_cases h1 : n % 10 = 0
    · have := ih (n / 10) (by omega)
      simp only [sh, h1, if_true]; omega
    · simp only [sh, h1, if_false]; omega
theorem sh_le (s : Nat) : ∀ n : Int, 0 ≤ (sh s n).2 ∧ (sh s n).2 ≤ s := by
  intro n; obtain ⟨t, h1, h2, _, _⟩ := sh_spec s n; rw [h2]; omega
theorem sh_pow (s t : Nat) (n : Int) : sh (s + t) (n * 10 ^ t) = sh s n := by
  induction t with
  | zero => simp
  | succ t ih =>
    have h1 : (n * 10 ^ (t + 1)) % 10 = 0 := by rw [Int.pow_succ, ← Int.mul_assoc]; exact Int.mul_emod_left _ _
    have h2 : (n * 10 ^ (t + 1)) / 10 = n * 10 ^ t := by rw [Int.pow_succ, ← Int.mul_assoc]; exact Int.mul_ediv_cancel _ (by decide)
    rw [← Nat.add_assoc]; simp only [sh, h1, if_true, h2, ih]
def decS (n : Int) (s : Nat) (m : Bool) : Int × Int × Int :=
  if 999999999999 < (sh s n).1 then (0, 0, 3) else (if m = true then -(sh s n).1 else (sh s n).1, (sh s n).2, 0)
theorem sh_big (s : Nat) : ∀ n : Int, s ≤ 6 → 999999999999 * 1000000 + 1000000 ≤ n → 999999999999 < (sh s n).1 := by
  intro n hs hn
  obtain ⟨t, h1, h2, h3, _⟩ := sh_spec s n
  have hp : (10 : Int) ^ t ≤ 1000000 := by
    have h : t ≤ 6 := by omega
    match t, h with
    | 0, _ | 1, _ | 2, _ | 3, _ | 4, _ | 5, _ | 6, _ => decide
  have hpos : 0 ≤ (10 : Int) ^ t := Int.pow_nonneg (by decide)
  false_or_by_contra
  have h4 : (sh s n).1 ≤ 999999999999 := by omega
  have h5 : 0 ≤ (sh s n).1 := (sh_nonneg s n (by omega)).1
  have h6 : (sh s n).1 * 10 ^ t ≤ 999999999999 * 1000000 := Int.mul_le_mul h4 hp hpos (by decide)
  omega
def Snd (n s : Int) : Prop := 0 ≤ s ∧ s ≤ 6 ∧ -999999999999 ≤ n ∧ n ≤ 999999999999 ∧ (s = 0 ∨ n % 10 ≠ 0)
instance (n s : Int) : Decidable (Snd n s) := by unfold Snd; infer_instance
def mk (n s : Int) : Int × Int × Int :=
  if s < 0 ∨ 6 < s ∨ 999999999999 < n ∨ n < -999999999999 then (0, 0, 3) else ((sh s.toNat n).1, (sh s.toNat n).2, 0)
theorem mk_sound (n s : Int) (h : Snd n s) : mk n s = (n, s, 0) := by
  obtain ⟨h0, h1, h2, h3, h4⟩ := h
  unfold mk; rw [if_neg (by omega)]
  rw [sh_id s.toNat n (by omega)]; simp only [Prod.mk.injEq, and_true, true_and]; omega
theorem mk_unsound (n s : Int) (h : ¬ Snd n s) : ¬ ((mk n s).2.2 = 0 ∧ (mk n s).1 = n ∧ (mk n s).2.1 = s) := by
  unfold mk
  by_cases h1 : s < 0 ∨ 6 < s ∨ 999999999999 < n ∨ n < -999999999999
  · rw [if_pos h1]; simp
  · rw [if_neg h1]
    rintro ⟨_, h2, h3⟩
    apply h
    refine ⟨by omega, by omega, by omega, by omega, ?_⟩
    obtain ⟨t, _, _, _, h4⟩ := sh_spec s.toNat n
    simp only at h2 h3
    rw [h2, h3] at h4; exact h4
theorem decS_sound (n : Int) (s : Nat) (m : Bool) (hn : 0 ≤ n) (hs : s ≤ 6) (h : (decS n s m).2.2 = 0) : Snd (decS n s m).1 (decS n s m).2.1 := by
  unfold decS at h ⊢
  by_cases h1 : 999999999999 < (sh s n).1
  · rw [if_pos h1] at h; simp at h
  · rw [if_neg h1]
    have h2 := sh_nonneg s n hn; have h3 := sh_le s n
    obtain ⟨t, _, _, _, h4⟩ := sh_spec s n
    exact ⟨h3.1, (by have := h3.2; simp only; omega), (by cases m <;> simp <;> omega), (by cases m <;> simp <;> omega), (by cases m <;> simp <;> omega)⟩
def rhe (v b : Int) : Int := if b < 2 * (v % b) ∨ (2 * (v % b) = b ∧ (v / b) % 2 = 1) then v / b + 1 else v / b
theorem rhe_one (v : Int) : rhe v 1 = v := by unfold rhe; rw [if_neg (by omega)]; omega
theorem rhe_nonneg (v b : Int) (hv : 0 ≤ v) (hb : 0 < b) : 0 ≤ rhe v b := by
  have := Int.ediv_nonneg hv (Int.le_of_lt hb); unfold rhe; split <;> omega
theorem rhe_mul (v b c : Int) (hb : 0 < b) (hc : 0 < c) : rhe (v * c) (b * c) = rhe v b := by
  unfold rhe
  have em : v * c % (b * c) = v % b * c := by rw [Int.mul_comm v c, Int.mul_comm b c, Int.mul_emod_mul_of_pos _ _ hc, Int.mul_comm]
  rw [Int.mul_ediv_mul_of_pos_left _ _ hc, em]
  · have e1 : (b * c < 2 * (v % b * c)) ↔ (b < 2 * (v % b)) := by
      rw [← Int.mul_assoc]; exact ⟨fun h => Int.lt_of_mul_lt_mul_right h (Int.le_of_lt hc), fun h => Int.mul_lt_mul_of_pos_right h hc⟩
    have e2 : (2 * (v % b * c) = b * c) ↔ (2 * (v % b) = b) := by
      rw [← Int.mul_assoc]; exact ⟨fun h => Int.eq_of_mul_eq_mul_right (by omega) h, fun h => by rw [h]⟩
    simp only [e1, e2]
theorem rhe_exact (q b : Int) (hb : 0 < b) : rhe (q * b) b = q := by
  unfold rhe; rw [Int.mul_emod_left, Int.mul_ediv_cancel _ (by omega), if_neg (by omega)]
def val : List Int → Int
  | [] => 0
  | d :: l => d + 10 * val l
def Dig (l : List Int) : Prop := ∀ d, d ∈ l → 0 ≤ d ∧ d ≤ 9
theorem Dig.cons {d : Int} {l : List Int} : Dig (d :: l) ↔ (0 ≤ d ∧ d ≤ 9) ∧ Dig l :=
  ⟨fun h => ⟨h d (List.mem_cons_self), fun x hx => h x (List.mem_cons_of_mem _ hx)⟩, fun h x hx => by
    rcases List.mem_cons.1 hx with rfl | hx
    · exact h.1
    · exact h.2 x hx⟩
theorem Dig.nil : Dig [] := fun _ h => by cases h
theorem Dig.drop {l : List Int} (h : Dig l) (k : Nat) : Dig (l.drop k) := fun d hd => h d (List.mem_of_mem_drop hd)
theorem Dig.take {l : List Int} (h : Dig l) (k : Nat) : Dig (l.take k) := fun d hd => h d (List.mem_of_mem_take hd)
theorem Dig.append {l m : List Int} (h : Dig l) (h' : Dig m) : Dig (l ++ m) := fun d hd => (List.mem_append.1 hd).elim (h d) (h' d)
theorem Dig.replicate (n : Nat) : Dig (List.replicate n 0) := fun d hd => by
  have := (List.mem_replicate.1 hd).2; omega
theorem val_nonneg {l : List Int} (h : Dig l) : 0 ≤ val l := by
  induction l with
  | nil => exact Int.le_refl _
  | cons d l ih => have := ih (Dig.cons.1 h).2; have := (Dig.cons.1 h).1; simp only [val]; omega
theorem val_lt {l : List Int} (h : Dig l) : val l < 10 ^ l.length := by
  induction l with
  | nil => decide
  | cons d l ih =>
    have h1 := ih (Dig.cons.1 h).2; have h2 := (Dig.cons.1 h).1
    simp only [val, List.length_cons, Int.pow_succ]; omega
theorem val_append (l m : List Int) : val (l ++ m) = val l + 10 ^ l.length * val m := by
  induction l with
  | nil => simp [val]
  | cons d l ih =>
    simp only [List.cons_append, val, ih, List.length_cons, Int.pow_succ, Int.mul_add]
    rw [Int.mul_comm (10 ^ l.length) 10, Int.mul_assoc]; omega
theorem val_replicate (n : Nat) : val (List.replicate n 0) = 0 := by
  induction n with
  | zero => rfl
  | succ n ih => simp [List.replicate_succ, val, ih]
theorem pow_pos (k : Nat) : (0 : Int) < 10 ^ k := Int.pow_pos (by decide)
theorem val_drop {l : List Int} (h : Dig l) (k : Nat) (hk : k ≤ l.length) : val (l.drop k) = val l / 10 ^ k ∧ val (l.take k) = val l % 10 ^ k := by
  have e := val_append (l.take k) (l.drop k)
  rw [List.take_append_drop] at e
  have hl : (l.take k).length = k := by rw [List.length_take]; omega
  rw [hl] at e
  have h1 := val_nonneg (h.take k); have h2 := val_lt (h.take k); rw [hl] at h2
  have hp := pow_pos k
  rw [e]
  constructor
  · rw [Int.add_mul_ediv_left _ _ (by omega), Int.ediv_eq_zero_of_lt h1 h2]; omega
  · rw [Int.add_mul_emod_self_left]; exact (Int.emod_eq_of_lt h1 h2).symm
def digs : Nat → Int → List Int
  | 0, _ => []
  | c + 1, n => n % 10 :: digs c (n / 10)
theorem digs_length (c : Nat) : ∀ n, (digs c n).length = c := by
  induction c with
  | zero => intro n; rfl
  | succ c ih => intro n; simp [digs, ih]
theorem digs_dig (c : Nat) : ∀ n, Dig (digs c n) := by
  induction c with
  | zero => intro n; exact Dig.nil
  | succ c ih => intro n; exact Dig.cons.2 ⟨by omega, ih _⟩
theorem digs_val (c : Nat) : ∀ n : Int, 0 ≤ n → n < 10 ^ c → val (digs c n) = n := by
  induction c with
  | zero => intro n h0 h1; simp at h1; simp [digs, val]; omega
  | succ c ih =>
    intro n h0 h1
    rw [Int.pow_succ] at h1
    have := ih (n / 10) (by omega) (by omega)
    simp only [digs, val, this]; omega
theorem digs_get (c : Nat) : ∀ (n : Int) (i : Nat), i < c → (digs c n).getD i 0 = n / 10 ^ i % 10 := by
  induction c with
  | zero => intro n i h; omega
  | succ c ih =>
    intro n i h
    cases i with
    | zero => simp [digs]
    | succ i =>
      have := ih (n / 10) i (by omega)
      simp only [digs, List.getD_cons_succ, this]
      rw [Int.ediv_ediv_of_nonneg (by decide), Int.pow_succ, Int.mul_comm]
def addc : Int → List Int → List Int → List Int
  | c, x :: xs, y :: ys => (x + y + c) % 10 :: addc ((x + y + c) / 10) xs ys
  | _, _, _ => []
theorem addc_length : ∀ (a b : List Int) (c : Int), a.length = b.length → (addc c a b).length = a.length
  | [], [], _, _ => rfl
  | x :: xs, y :: ys, c, h => by simp [addc, addc_length xs ys _ (by simpa using h)]
  | [], _ :: _, _, h => by simp at h
  | _ :: _, [], _, h => by simp at h
theorem addc_dig : ∀ (a b : List Int) (c : Int), Dig (addc c a b)
  | [], [], _ => Dig.nil
  | [], _ :: _, _ => Dig.nil
  | _ :: _, [], _ => Dig.nil
  | x :: xs, y :: ys, c => Dig.cons.2 ⟨by omega, addc_dig xs ys _⟩
theorem addc_val : ∀ (a b : List Int) (c : Int), a.length = b.length → val (addc c a b) = (val a + val b + c) % 10 ^ a.length
  | [], [], c, _ => by simp [addc, val]
  | [], _ :: _, _, h => by simp at h
  | _ :: _, [], _, h => by simp at h
  | x :: xs, y :: ys, c, h => by
    have ih := addc_val xs ys ((x + y + c) / 10) (by simpa using h)
    simp only [addc, val, ih, List.length_cons, Int.pow_succ]
    have hp := pow_pos xs.length
    generalize (10 : Int) ^ xs.length = P at hp ih ⊢
    have e : x + 10 * val xs + (y + 10 * val ys) + c = 10 * (val xs + val ys + (x + y + c) / 10) + (x + y + c) % 10 := by omega
    rw [e]
    generalize val xs + val ys + (x + y + c) / 10 = T
    have hr : 0 ≤ (x + y + c) % 10 ∧ (x + y + c) % 10 < 10 := by omega
    generalize (x + y + c) % 10 = r at hr ⊢
    have e2 : 10 * T + r = 10 * (T % P) + r + (P * 10) * (T / P) := by
      have := Int.emod_add_mul_ediv T P
      have e3 : P * 10 * (T / P) = 10 * (P * (T / P)) := by rw [Int.mul_comm P 10, Int.mul_assoc]
      rw [e3]; omega
    have h1 := Int.emod_nonneg T (Int.ne_of_gt hp); have h2 := Int.emod_lt_of_pos T hp
    rw [e2, Int.add_mul_emod_self_left]
    generalize T % P = m at h1 h2 ⊢
    rw [Int.emod_eq_of_lt (by omega) (by omega)]; omega
theorem rhe_digits (v : Int) (c : Nat) (hv : 0 ≤ v) :
    rhe v (10 ^ (c + 1)) = v / 10 ^ (c + 1) + (if 5 < v / 10 ^ c % 10 ∨ (v / 10 ^ c % 10 = 5 ∧ (0 < v % 10 ^ c ∨ v / 10 ^ (c + 1) % 10 % 2 = 1)) then 1 else 0) := by
  have hp := pow_pos c
  unfold rhe
  rw [Int.pow_succ]
  generalize (10 : Int) ^ c = P at hp ⊢
  have e1 : v % (P * 10) = v % P + P * (v / P % 10) := by
    have h1 := Int.emod_add_mul_ediv v P
    have h2 := Int.emod_add_mul_ediv (v / P) 10
    have h3 : v = (v % P + P * (v / P % 10)) + (P * 10) * (v / P / 10) := by
      have e : P * (v / P) = P * (v / P % 10) + P * 10 * (v / P / 10) := by
        rw [Int.mul_assoc, ← Int.mul_add, h2]
      omega
    have h4 := Int.emod_nonneg v (Int.ne_of_gt hp); have h5 := Int.emod_lt_of_pos v hp
    have h6 : 0 ≤ v / P % 10 ∧ v / P % 10 ≤ 9 := by omega
    have h7 : 0 ≤ P * (v / P % 10) := Int.mul_nonneg (by omega) h6.1
    have h8 : P * (v / P % 10) ≤ P * 9 := Int.mul_le_mul_of_nonneg_left h6.2 (by omega)
    have h9 : v % (P * 10) = ((v % P + P * (v / P % 10)) + (P * 10) * (v / P / 10)) % (P * 10) := by rw [← h3]
    rw [h9, Int.add_mul_emod_self_left, Int.emod_eq_of_lt (by omega) (by omega)]
  rw [e1]
  have h4 := Int.emod_nonneg v (Int.ne_of_gt hp); have h5 := Int.emod_lt_of_pos v hp
  have h6 : 0 ≤ v / P % 10 ∧ v / P % 10 ≤ 9 := by omega
  generalize v % P = L at h4 h5 ⊢
  generalize v / P % 10 = h at h6 ⊢
  have ee : v / (P * 10) % 10 % 2 = v / (P * 10) % 2 := by omega
  rw [ee]
  generalize v / (P * 10) = q
  have hh : P * h < P * 5 ∧ P * h ≤ P * 4 ∨ P * h = P * 5 ∧ h = 5 ∨ P * 6 ≤ P * h ∧ 5 < h := by
    rcases Int.lt_trichotomy h 5 with g | g | g
    · exact .inl ⟨Int.mul_lt_mul_of_pos_left g hp, Int.mul_le_mul_of_nonneg_left (by omega) (by omega)⟩
    · exact .inr (.inl ⟨by rw [g], g⟩)
    · exact .inr (.inr ⟨Int.mul_le_mul_of_nonneg_left (by omega) (by omega), g⟩)
  have hlt : P * h ≤ P * 4 → h < 5 := fun g => by
    false_or_by_contra
    have : P * 5 ≤ P * h := Int.mul_le_mul_of_nonneg_left (by omega) (by omega)
    omega
  generalize P * h = Ph at hh hlt ⊢
  rcases hh with ⟨g1, g2⟩ | ⟨g1, g2⟩ | ⟨g1, g2⟩
  · have := hlt g2; rw [if_neg (by omega), if_neg (by omega)]; omega
  · subst g1; subst g2
    by_cases g3 : 0 < L ∨ q % 2 = 1
    · rw [if_pos (by omega), if_pos (by omega)]
    · rw [if_neg (by omega), if_neg (by omega)]; omega
  · rw [if_pos (by omega), if_pos (by omega)]
theorem rhe_long (A by' V rest : Int) (c e : Nat) (hA : 0 ≤ A) (hb : 0 < by') (h : by' * V + rest = A * 10 ^ (c + 2 + e)) (h0 : 0 ≤ rest) (h1 : rest < by') :
    rhe (if 0 < rest ∧ V % 10 = 0 then V + 1 else V) (10 ^ (c + 2)) = rhe (A * 10 ^ e) by' := by
  have hC := pow_pos c
  have hM : A * 10 ^ (c + 2 + e) = (A * 10 ^ e) * (100 * 10 ^ c) := by
    rw [Int.pow_add, Int.pow_add]
    have e2 : (10 : Int) ^ 2 = 100 := by decide
    rw [e2]; ac_rfl
  have hP : (10 : Int) ^ (c + 2) = 100 * 10 ^ c := by
    rw [Int.pow_add]; have e2 : (10 : Int) ^ 2 = 100 := by decide
    rw [e2, Int.mul_comm]
  rw [hM] at h; rw [hP]
  have hm : 0 ≤ A * 10 ^ e := Int.mul_nonneg hA (Int.le_of_lt (pow_pos e))
  generalize (10 : Int) ^ c = C at hC h ⊢
  generalize A * 10 ^ e = m at hm h ⊢
  have hr0 := Int.emod_nonneg m (Int.ne_of_gt hb); have hr1 := Int.emod_lt_of_pos m hb
  have hme := Int.emod_add_mul_ediv m by'
  have hL : by' * (V - m / by' * (100 * C)) + rest = m % by' * (100 * C) := by
    have e1 : by' * (V - m / by' * (100 * C)) = by' * V - by' * (m / by') * (100 * C) := by rw [Int.mul_sub, Int.mul_assoc]
    have e2 : (m % by' + by' * (m / by')) * (100 * C) = m % by' * (100 * C) + by' * (m / by') * (100 * C) := Int.add_mul _ _ _
    rw [hme] at e2; omega
  generalize hq : m / by' = q at hL hme
  generalize hR : m % by' = R at hL hr0 hr1 hme
  generalize hLL : V - q * (100 * C) = L at hL
  have hV : V = L + 100 * C * q := by rw [Int.mul_comm (100 * C) q]; omega
  have hL0 : 0 ≤ L := by
    false_or_by_contra
    have h2 : by' * L ≤ by' * (-1) := Int.mul_le_mul_of_nonneg_left (by omega) (by omega)
    have h3 : 0 ≤ R * (100 * C) := Int.mul_nonneg hr0 (by omega)
    omega
  have hL1 : L < 100 * C := by
    false_or_by_contra
    have h2 : by' * (100 * C) ≤ by' * L := Int.mul_le_mul_of_nonneg_left (by omega) (by omega)
    have h3 : R * (100 * C) ≤ (by' - 1) * (100 * C) := Int.mul_le_mul_of_nonneg_right (by omega) (by omega)
    rw [Int.sub_mul] at h3
    omega
  have hmod : V % 10 = L % 10 := by rw [hV]; have : 100 * C * q = 10 * (10 * (C * q)) := by rw [Int.mul_assoc]; omega
                                    rw [this]; omega
  have hV2 : ∀ z : Int, 0 ≤ z → z < 100 * C → (z + 100 * C * q) / (100 * C) = q ∧ (z + 100 * C * q) % (100 * C) = z := by
    intro z h2 h3
    exact ⟨by rw [Int.add_mul_ediv_left _ _ (by omega), Int.ediv_eq_zero_of_lt h2 h3]; omega, by rw [Int.add_mul_emod_self_left]; exact Int.emod_eq_of_lt h2 h3⟩
  have hcmp1 : 50 * C < L → by' * (50 * C) + by' ≤ by' * L := fun g => by
    have h2 : by' * (50 * C + 1) ≤ by' * L := Int.mul_le_mul_of_nonneg_left (by omega) (by omega)
    rw [Int.mul_add] at h2; omega
  have hcmp2 : L < 50 * C → by' * L + by' ≤ by' * (50 * C) := fun g => by
    have h2 : by' * (L + 1) ≤ by' * (50 * C) := Int.mul_le_mul_of_nonneg_left (by omega) (by omega)
    rw [Int.mul_add] at h2; omega
  have hR2 : R * (100 * C) = 2 * R * (50 * C) := by rw [Int.mul_comm 2 R, Int.mul_assoc]; congr 1; omega
  rw [hR2] at hL
  have g1 : by' < 2 * R → by' * (50 * C) + 50 * C ≤ 2 * R * (50 * C) := fun g => by
    have h2 : (by' + 1) * (50 * C) ≤ 2 * R * (50 * C) := Int.mul_le_mul_of_nonneg_right (by omega) (by omega)
    rw [Int.add_mul] at h2; omega
  have g2 : 2 * R < by' → 2 * R * (50 * C) + 50 * C ≤ by' * (50 * C) := fun g => by
    have h2 : (2 * R + 1) * (50 * C) ≤ by' * (50 * C) := Int.mul_le_mul_of_nonneg_right (by omega) (by omega)
    rw [Int.add_mul] at h2; omega
  have g3 : 2 * R = by' → 2 * R * (50 * C) = by' * (50 * C) := fun g => by rw [g]
  unfold rhe
  rw [hq, hR, hmod]
  by_cases hs : 0 < rest ∧ L % 10 = 0
  · rw [if_pos hs]
    have hz := hV2 (L + 1) (by omega) (by omega)
    have ez : V + 1 = L + 1 + 100 * C * q := by omega
    rw [ez, hz.1, hz.2]
    rcases Int.lt_trichotomy L (50 * C) with k | k | k
    · have := hcmp2 k
      have k2 : 2 * R < by' ∨ 2 * R = by' ∨ by' < 2 * R := by omega
      rcases k2 with k2 | k2 | k2
      · rw [if_neg (by omega), if_neg (by omega)]
      · have := g3 k2; omega
      · have := g1 k2; omega
    · subst k
      have k2 : 2 * R < by' ∨ 2 * R = by' ∨ by' < 2 * R := by omega
      rcases k2 with k2 | k2 | k2
      · have := g2 k2; omega
      · have := g3 k2; omega
      · rw [if_pos (by omega), if_pos (by omega)]
    · have := hcmp1 k
      have k2 : 2 * R < by' ∨ 2 * R = by' ∨ by' < 2 * R := by omega
      rcases k2 with k2 | k2 | k2
      · have := g2 k2; omega
      · have := g3 k2; omega
      · rw [if_pos (by omega), if_pos (by omega)]
  · rw [if_neg hs]
    have hz := hV2 L hL0 hL1
    rw [hV, hz.1, hz.2]
    rcases Int.lt_trichotomy L (50 * C) with k | k | k
    · have := hcmp2 k
      have k2 : 2 * R < by' ∨ 2 * R = by' ∨ by' < 2 * R := by omega
      rcases k2 with k2 | k2 | k2
      · rw [if_neg (by omega), if_neg (by omega)]
      · have := g3 k2; omega
      · have := g1 k2; omega
    · subst k
      have hr : rest = 0 := by omega
      have k2 : 2 * R < by' ∨ 2 * R = by' ∨ by' < 2 * R := by omega
      rcases k2 with k2 | k2 | k2
      · have := g2 k2; omega
      · by_cases o : q % 2 = 1
        · rw [if_pos (by omega), if_pos (by omega)]
        · rw [if_neg (by omega), if_neg (by omega)]
      · have := g1 k2; omega
    · have := hcmp1 k
      have k2 : 2 * R < by' ∨ 2 * R = by' ∨ by' < 2 * R := by omega
      rcases k2 with k2 | k2 | k2
      · have := g2 k2; omega
      · have := g3 k2; omega
      · rw [if_pos (by omega), if_pos (by omega)]
end Go.Proofs.YtgkemhgihbfmmaaDoor.M
end
section
namespace Go.Proofs.YtgkemhgihbfmmaaDoor.PA
open Go.RowKit Go.Proofs.YtgkemhgihbfmmaaDoorW.PrintWords Go.Proofs.YtgkemhgihbfmmaaDoorW.PrintLast Go.Proofs.YtgkemhgihbfmmaaDoorW.PrintMore
open Go.Proofs.YtgkemhgihbfmmaaDoor.M
theorem w64 {x : Int} (h1 : -9223372036854775808 ≤ x) (h2 : x < 9223372036854775808) : wrap64 x = x := by unfold wrap64; omega
theorem wu64 {x : Int} (h1 : 0 ≤ x) (h2 : x < 18446744073709551616) : IntKind.u64.wrap x = x := by rw [IntKind.wrap_u64]; omega
theorem obs {α β : Type} (a : α) (f : α → Option β) : (some a).bind f = f a := by simp
theorem succ_of {k : Nat} (h : 0 < k) : ∃ m, k = m + 1 := ⟨k - 1, by omega⟩
theorem short_l0 (s : Nat) : ∀ (k : Nat) (n : Int), s < k → s ≤ 1000 → 0 ≤ n → n < 18446744073709551616 → deci_form_short.l0 k n s = some (sh s n) := by
  induction s with
  | zero =>
    intro k n hk _ _ _
    obtain ⟨k, rfl⟩ := succ_of (show 0 < k by omega)
    simp only [deci_form_short.l0]; rw [if_neg (by omega)]; rfl
  | succ s ih =>
    intro k n hk hs h0 h1
    obtain ⟨k, rfl⟩ := succ_of (show 0 < k by omega)
    simp only [deci_form_short.l0]
    rw [if_pos (by omega), Int.tmod_eq_emod_of_nonneg h0, Int.tdiv_eq_ediv_of_nonneg h0]
    by_cases h : n % 10 = 0
    · rw [if_pos h, wu64 (by omega) (by omega), w64 (by omega) (by omega), show ((s + 1 : Nat) : Int) - 1 = (s : Int) by omega, ih k (n / 10) (by omega) (by omega) (by omega) (by omega)]
      simp only [sh, h, if_true]
    · rw [if_neg h]; simp only [sh, h, if_false]; rfl
theorem dec_f {k : Nat} {n s : Int} {m : Bool} (hk : 8 ≤ k) (h0 : 0 ≤ n) (h1 : n < 18446744073709551616) (hs0 : 0 ≤ s) (hs : s ≤ 6) :
    deci_form_dec.f k n s m = some (decS n s.toNat m) := by
  obtain ⟨t, rfl⟩ := Int.eq_ofNat_of_zero_le hs0
  unfold deci_form_dec.f deci_form_short.f
  rw [short_l0 t k n (by omega) (by omega) h0 h1]
  simp only [Option.bind_some, Int.toNat_natCast]
  have hb := sh_nonneg t n h0
  unfold decS
  by_cases h : 999999999999 < (sh t n).1
  · rw [if_pos h, if_pos h]
  · rw [if_neg h, if_neg h, w64 (x := (sh t n).1) (by omega) (by omega), w64 (by omega) (by omega)]
    cases m <;> rfl
theorem mx_abs {n : Int} (h1 : -9223372036854775807 ≤ n) (h2 : n < 9223372036854775808) : IntKind.u64.wrap (mx n (wrap64 (-n))) = n.natAbs := by
  rw [w64 (by omega) (by omega)]; unfold mx
  split <;> (rw [wu64 (by omega) (by omega)]; omega)
theorem decS_mk (n s : Int) (h : ¬ (s < 0 ∨ 6 < s ∨ 999999999999 < n ∨ n < -999999999999)) : decS (n.natAbs : Int) s.toNat (decide (n < 0)) = mk n s := by
  unfold decS mk
  rw [if_neg h]
  have hb := sh_nonneg s.toNat (n.natAbs : Int) (by omega)
  rw [if_neg (by omega)]
  by_cases g : n < 0
  · have e : n = -((n.natAbs : Nat) : Int) := by omega
    simp only [g, decide_true, if_true]
    rw [e, sh_neg]; simp
  · have e : ((n.natAbs : Nat) : Int) = n := by omega
    simp only [g, decide_false, Bool.false_eq_true, if_false]
    rw [e]
theorem make_f {k : Nat} (hk : 10 ≤ k) (n s : Int) : deci_Make.f k n s = some (mk n s) := by
  have hj : ∀ b : Bool, b = decide (s < 0 ∨ 6 < s ∨ 999999999999 < n ∨ n < -999999999999) → deci_Make.j0 k n s b = some (mk n s) := by
    intro b hb
    obtain ⟨k, rfl⟩ := succ_of (show 0 < k by omega)
    simp only [deci_Make.j0]
    by_cases h : s < 0 ∨ 6 < s ∨ 999999999999 < n ∨ n < -999999999999
    · rw [if_pos (by rw [hb]; exact decide_eq_true h)]; unfold mk; rw [if_pos h]
    · rw [if_neg (by rw [hb, decide_eq_false h]; simp), mx_abs (by omega) (by omega), dec_f (by omega) (by omega) (by omega) (by omega) (by omega)]
      simp only [Option.bind_some]
      rw [decS_mk n s h]
  unfold deci_Make.f
  by_cases h1 : s < 0
  · rw [if_pos h1]; exact hj _ (decide_eq_true (by omega)).symm
  rw [if_neg h1]
  by_cases h2 : s > 6
  · rw [if_pos h2]; exact hj _ (decide_eq_true (by omega)).symm
  rw [if_neg h2]
  by_cases h3 : n > 999999999999
  · rw [if_pos h3]; exact hj _ (decide_eq_true (by omega)).symm
  rw [if_neg h3]
  exact hj _ (by rw [decide_eq_decide]; omega)
theorem refmake_l0 (s : Nat) : ∀ (k : Nat) (n : Int), s < k → s ≤ 1000 → -9223372036854775808 ≤ n → n < 9223372036854775808 → soffitref01_Make.l0 k n s = some ((sh s n).1, (sh s n).2, 0) := by
  induction s with
  | zero =>
    intro k n hk _ _ _
    obtain ⟨k, rfl⟩ := succ_of (show 0 < k by omega)
    simp only [soffitref01_Make.l0]; rw [if_neg (by omega)]; rfl
  | succ s ih =>
    intro k n hk hs h0 h1
    obtain ⟨k, rfl⟩ := succ_of (show 0 < k by omega)
    simp only [soffitref01_Make.l0]
    rw [if_pos (by omega)]
    have e : Int.tmod n 10 = 0 ↔ n % 10 = 0 := by
      constructor
      · intro h; have := Int.dvd_of_tmod_eq_zero h; omega
      · intro h; exact Int.tmod_eq_zero_of_dvd (by omega)
    by_cases h : n % 10 = 0
    · have hd : Int.tdiv n 10 = n / 10 := Int.tdiv_eq_ediv_of_dvd (by omega)
      rw [if_pos (e.2 h), hd, w64 (by omega) (by omega), w64 (by omega) (by omega), show ((s + 1 : Nat) : Int) - 1 = (s : Int) by omega, ih k (n / 10) (by omega) (by omega) (by omega) (by omega)]
      simp only [sh, h, if_true]
    · rw [if_neg (fun g => h (e.1 g))]; simp only [sh, h, if_false]; rfl
theorem refmake_f {k : Nat} (hk : 10 ≤ k) (n s : Int) : soffitref01_Make.f k n s = some (mk n s) := by
  have hj : ∀ b : Bool, b = decide (s < 0 ∨ 6 < s ∨ 999999999999 < n ∨ n < -999999999999) → soffitref01_Make.j0 k n s b = some (mk n s) := by
    intro b hb
    obtain ⟨k, rfl⟩ := succ_of (show 0 < k by omega)
    simp only [soffitref01_Make.j0]
    by_cases h : s < 0 ∨ 6 < s ∨ 999999999999 < n ∨ n < -999999999999
    · rw [if_pos (by rw [hb]; exact decide_eq_true h)]; unfold mk; rw [if_pos h]
    · rw [if_neg (by rw [hb, decide_eq_false h]; simp)]
      obtain ⟨t, rfl⟩ := Int.eq_ofNat_of_zero_le (show 0 ≤ s by omega)
      rw [refmake_l0 t k n (by omega) (by omega) (by omega) (by omega)]
      unfold mk; rw [if_neg h, Int.toNat_natCast]
  unfold soffitref01_Make.f
  by_cases h1 : s < 0
  · rw [if_pos h1]; exact hj _ (decide_eq_true (by omega)).symm
  rw [if_neg h1]
  by_cases h2 : s > 6
  · rw [if_pos h2]; exact hj _ (decide_eq_true (by omega)).symm
  rw [if_neg h2]
  by_cases h3 : n > 999999999999
  · rw [if_pos h3]; exact hj _ (decide_eq_true (by omega)).symm
  rw [if_neg h3]
  exact hj _ (by rw [decide_eq_decide]; omega)
theorem sound_f {k : Nat} (hk : 10 ≤ k) (n s : Int) : deci_Sound.f k n s = some (decide (Snd n s)) := by
  unfold deci_Sound.f
  rw [make_f hk]; simp only [Option.bind_some]
  by_cases h : Snd n s
  · rw [mk_sound n s h]; simp [h]
  · have hu := mk_unsound n s h
    by_cases e : (mk n s).2.2 = 0
    · rw [if_pos e]; simp only [h, decide_false, Option.some.injEq, Bool.and_eq_false_iff, beq_eq_false_iff_ne]
      by_cases e1 : (mk n s).1 = n
      · right; intro e2; exact hu ⟨e, e1, e2⟩
      · left; exact e1
    · rw [if_neg e]; simp [h]
theorem refsound_f {k : Nat} (hk : 10 ≤ k) (n s : Int) : soffitref01_Sound.f k n s = some (decide (Snd n s)) := by
  unfold soffitref01_Sound.f
  rw [refmake_f hk]; simp only [Option.bind_some]
  by_cases h : Snd n s
  · rw [mk_sound n s h]; simp [h]
  · have hu := mk_unsound n s h
    by_cases e : (mk n s).2.2 = 0
    · rw [if_pos e]
      by_cases e1 : (mk n s).1 = n
      · rw [if_pos e1]; simp only [h, decide_false, Option.some.injEq, beq_eq_false_iff_ne]
        intro e2; exact hu ⟨e, e1, e2⟩
      · rw [if_neg e1]; simp [h]
    · rw [if_neg e]; simp [h]
theorem all_one {k : Nat} (hk : 15 ≤ k) (n s : Int) : deci_all.f k [⟨n, s⟩] = some (if Snd n s then 0 else 2) := by
  obtain ⟨k, rfl⟩ : ∃ m, k = m + 2 := ⟨k - 2, by omega⟩
  unfold deci_all.f
  simp only [deci_all.l0, List.length_singleton]
  have e0 : rd_T23 [(⟨n, s⟩ : S23)] 0 = ⟨n, s⟩ := rfl
  rw [if_pos (by decide), if_pos (by decide), if_pos (by decide), e0, sound_f (by omega)]
  simp only [Option.bind_some, decide_eq_true_eq]
  by_cases h : Snd n s
  · rw [if_pos h, if_pos h, if_neg (by rw [w64 (by decide) (by decide)]; decide)]
  · rw [if_neg h, if_neg h]
theorem all_two {k : Nat} (hk : 15 ≤ k) (n s n' s' : Int) : deci_all.f k [⟨n, s⟩, ⟨n', s'⟩] = some (if Snd n s ∧ Snd n' s' then 0 else 2) := by
  obtain ⟨k, rfl⟩ : ∃ m, k = m + 3 := ⟨k - 3, by omega⟩
  have w1 : wrap64 (0 + 1) = 1 := w64 (by decide) (by decide)
  have w2 : wrap64 (1 + 1) = 2 := w64 (by decide) (by decide)
  unfold deci_all.f
  simp only [deci_all.l0, List.length_cons, List.length_nil, w1, w2]
  have e0 : rd_T23 [(⟨n, s⟩ : S23), ⟨n', s'⟩] 0 = ⟨n, s⟩ := rfl
  have e1 : rd_T23 [(⟨n, s⟩ : S23), ⟨n', s'⟩] 1 = ⟨n', s'⟩ := rfl
  rw [if_pos (by decide), if_pos (by decide), if_pos (by decide), e0, sound_f (by omega)]
  simp only [Option.bind_some, decide_eq_true_eq]
  by_cases h : Snd n s
  · rw [if_pos h, if_pos (by decide), if_pos (by decide), if_pos (by decide), e1, sound_f (by omega)]
    simp only [Option.bind_some, decide_eq_true_eq]
    by_cases h' : Snd n' s'
    · rw [if_pos h', if_neg (by decide)]; simp only [h, h', and_self, if_true]
    · rw [if_neg h']; simp only [h, h', and_false, if_false]
  · rw [if_neg h]; simp only [h, false_and, if_false]
theorem size_f {n s : Int} (h : Snd n s) : deci_size.f n s = some (n.natAbs : Int) := by
  obtain ⟨_, _, h1, h2, _⟩ := h
  unfold deci_size.f; rw [mx_abs (by omega) (by omega)]
theorem power_l0 (d : Nat) : ∀ (k i : Nat), d < k → i + d ≤ 18 → deci_power.l0 k (10 ^ i) ((i + d : Nat) : Int) (i : Int) = some (10 ^ (i + d)) := by
  have hp : ∀ j : Nat, j ≤ 18 → (10 : Int) ^ j ≤ 1000000000000000000 := fun j h => by
    have h1 : (10 : Int) ^ 18 = 10 ^ j * 10 ^ (18 - j) := by rw [← Int.pow_add]; congr 1; omega
    have h2 := pow_pos j; have h3 := pow_pos (18 - j)
    have h4 : 10 ^ j * 1 ≤ (10 : Int) ^ j * 10 ^ (18 - j) := Int.mul_le_mul_of_nonneg_left (by omega) (by omega)
    have h5 : (10 : Int) ^ 18 = 1000000000000000000 := by decide
    omega
  induction d with
  | zero =>
    intro k i hk hi
    obtain ⟨k, rfl⟩ := succ_of (show 0 < k by omega)
    simp only [deci_power.l0]; rw [if_neg (by omega)]; simp
  | succ d ih =>
    intro k i hk hi
    obtain ⟨k, rfl⟩ := succ_of (show 0 < k by omega)
    simp only [deci_power.l0]
    have h1 := hp (i + 1) (by omega); have h2 := pow_pos (i + 1)
    rw [if_pos (by omega), ← Int.pow_succ, wu64 (by omega) (by omega), w64 (by omega) (by omega)]
    have := ih k (i + 1) (by omega) (by omega)
    rw [show ((i + 1 : Nat) : Int) = (i : Int) + 1 by omega, show i + 1 + d = i + (d + 1) by omega] at this
    exact this
theorem power_f {k : Nat} (hk : 20 ≤ k) {n : Int} (h0 : 0 ≤ n) (h1 : n ≤ 18) : deci_power.f k n = some (10 ^ n.toNat) := by
  obtain ⟨t, rfl⟩ := Int.eq_ofNat_of_zero_le h0
  have := power_l0 t k 0 (by omega) (by omega)
  simp only [Nat.zero_add, Int.pow_zero] at this
  unfold deci_power.f; rw [Int.toNat_natCast]; exact this
end Go.Proofs.YtgkemhgihbfmmaaDoor.PA
end
section
namespace Go.Proofs.YtgkemhgihbfmmaaDoor.PA
open Go.RowKit Go.Proofs.YtgkemhgihbfmmaaDoorW.PrintWords Go.Proofs.YtgkemhgihbfmmaaDoorW.PrintLast Go.Proofs.YtgkemhgihbfmmaaDoorW.PrintMore
open Go.Proofs.YtgkemhgihbfmmaaDoor.M
theorem bits_or_nat (a b : Nat) (ha : a < 18446744073709551616) (hb : b < 18446744073709551616) : Go.bits .or .u64 (a : Int) (b : Int) = ((a ||| b : Nat) : Int) := by
  have h1 : (BitVec.ofInt 64 (a : Int)).toNat = a := by rw [BitVec.ofInt_natCast, BitVec.toNat_ofNat]; exact Nat.mod_eq_of_lt ha
  have h2 : (BitVec.ofInt 64 (b : Int)).toNat = b := by rw [BitVec.ofInt_natCast, BitVec.toNat_ofNat]; exact Nat.mod_eq_of_lt hb
  have h3 : Go.bits .or .u64 (a : Int) (b : Int) = IntKind.u64.wrap ((BitVec.ofInt 64 (a : Int) ||| BitVec.ofInt 64 (b : Int)).toNat) := rfl
  rw [h3, BitVec.toNat_or, h1, h2]
  have h4 : a ||| b < 2 ^ 64 := Nat.or_lt_two_pow (by omega) (by omega)
  exact wu64 (by omega) (by omega)
structure Guess (Y a b U u q r : Int) : Prop where
  hY : Y = a * 4294967296 + b
  ha : 2147483648 ≤ a
  ha' : a < 4294967296
  hb : 0 ≤ b
  hb' : b < 4294967296
  hU : 0 ≤ U
  hU' : U < Y
  hu : 0 ≤ u
  hu' : u < 4294967296
  hq : q * a + r = U
  hr : 0 ≤ r
  hr' : r < 4294967296
  hge : (U * 4294967296 + u) / Y ≤ q
theorem Guess.pos {Y a b U u q r : Int} (g : Guess Y a b U u q r) : 0 < Y := by have := g.hY; have := g.ha; have := g.hb; omega
theorem Guess.q0 {Y a b U u q r : Int} (g : Guess Y a b U u q r) : 0 ≤ (U * 4294967296 + u) / Y ∧ (U * 4294967296 + u) / Y < 4294967296 := by
  have hp := g.pos
  constructor
  · exact Int.ediv_nonneg (by have := g.hU; have := g.hu; omega) (Int.le_of_lt hp)
  · apply Int.ediv_lt_of_lt_mul hp
    have := g.hU'; have := g.hu'; omega
theorem Guess.qle {Y a b U u q r : Int} (g : Guess Y a b U u q r) : 0 ≤ q ∧ q ≤ 4294967297 := by
  have h0 := g.q0; have hge := g.hge
  refine ⟨by omega, ?_⟩
  false_or_by_contra
  have h1 : 4294967298 * a ≤ q * a := Int.mul_le_mul_of_nonneg_right (by omega) (by have := g.ha; omega)
  have := g.hq; have := g.hr; have := g.hU'; have := g.hY; have := g.ha; have := g.hb'
  omega
theorem Guess.test {Y a b U u q r : Int} (g : Guess Y a b U u q r) (hq : q < 4294967296) :
    (r * 4294967296 + u < q * b ↔ (U * 4294967296 + u) / Y < q) ∧ 0 ≤ q * b ∧ q * b < 18446744073709551616 := by
  have h0 := g.qle
  have e : q * Y = (q * a) * 4294967296 + q * b := by rw [g.hY, Int.mul_add, Int.mul_assoc]
  have h1 : 0 ≤ q * b := Int.mul_nonneg h0.1 g.hb
  have h2 : q * b ≤ 4294967295 * b := Int.mul_le_mul_of_nonneg_right (by omega) g.hb
  have := g.hb'
  refine ⟨?_, h1, by omega⟩
  have hqq := g.hq
  have h3 : (U * 4294967296 + u) / Y < q ↔ U * 4294967296 + u < q * Y := Int.ediv_lt_iff_lt_mul g.pos
  rw [h3, e]
  generalize q * a = qa at hqq ⊢
  generalize q * b = qb at *
  omega
theorem Guess.back {Y a b U u q r : Int} (g : Guess Y a b U u q r) (h : (U * 4294967296 + u) / Y < q) :
    (4294967296 ≤ r + a → q - 1 = (U * 4294967296 + u) / Y) ∧ (r + a < 4294967296 → Guess Y a b U u (q - 1) (r + a)) := by
  have hqq := g.hq
  have e1 : (q - 1) * a + (r + a) = U := by rw [Int.sub_mul]; omega
  constructor
  · intro hr
    have h0 := g.q0
    have hql := g.qle
    have h1 : (q - 1) * b ≤ 4294967296 * b := Int.mul_le_mul_of_nonneg_right (by omega) g.hb
    have e : (q - 1) * Y = ((q - 1) * a) * 4294967296 + (q - 1) * b := by rw [g.hY, Int.mul_add, Int.mul_assoc]
    have h2 : (q - 1) * Y ≤ U * 4294967296 + u := by
      rw [e]
      have := g.hb'; have := g.hu
      generalize (q - 1) * a = qa at e1 ⊢
      generalize (q - 1) * b = qb at *
      omega
    have h3 : q - 1 ≤ (U * 4294967296 + u) / Y := (Int.le_ediv_iff_mul_le g.pos).2 h2
    omega
  · intro hr
    exact ⟨g.hY, g.ha, g.ha', g.hb, g.hb', g.hU, g.hU', g.hu, g.hu', e1, by have := g.hr; have := g.ha; omega, hr, by omega⟩
theorem Guess.mkk {Y a b U u : Int} (hY : Y = a * 4294967296 + b) (ha : 2147483648 ≤ a) (ha' : a < 4294967296) (hb : 0 ≤ b) (hb' : b < 4294967296) (hU : 0 ≤ U) (hU' : U < Y) (hu : 0 ≤ u) (hu' : u < 4294967296) :
    Guess Y a b U u (U / a) (U - U / a * a) := by
  have hm := Int.emod_add_mul_ediv U a
  have e : U - U / a * a = U % a := by rw [Int.mul_comm]; omega
  have h1 := Int.emod_nonneg U (show a ≠ 0 by omega); have h2 := Int.emod_lt_of_pos U (show 0 < a by omega)
  refine ⟨hY, ha, ha', hb, hb', hU, hU', hu, hu', by omega, by omega, by omega, ?_⟩
  have hp : 0 < Y := by omega
  have h3 : (U * 4294967296 + u) / Y < U / a + 1 := by
    rw [Int.ediv_lt_iff_lt_mul hp, hY]
    have e2 : (U / a + 1) * (a * 4294967296 + b) = (a * (U / a) + a) * 4294967296 + (U / a + 1) * b := by
      rw [Int.mul_add, ← Int.mul_assoc, Int.add_mul (U / a) 1 a, Int.mul_comm (U / a) a]; omega
    have h4 : 0 ≤ (U / a + 1) * b := Int.mul_nonneg (by have := Int.ediv_nonneg hU (show 0 ≤ a by omega); omega) hb
    rw [e2]
    generalize a * (U / a) = p at *
    generalize (U / a + 1) * b = p2 at *
    omega
  omega
theorem div_l0 (Y s a b U u un0 : Int) (K0 : Nat) (R : Int × Int) (h : ∀ k, K0 ≤ k → bits_Div64.j2 k Y s a b U u un0 ((U * 4294967296 + u) / Y) = some R) (m : Nat) :
    ∀ (k : Nat) (q r : Int), K0 + 2 * m + 2 ≤ k → 4294967296 - r ≤ (m : Int) * 2147483648 → Guess Y a b U u q r → bits_Div64.l0 k Y s a b U u un0 q r = some R := by
  induction m with
  | zero => intro k q r _ hm g; have := g.hr'; omega
  | succ m ih =>
    intro k q r hk hm g
    obtain ⟨k, rfl⟩ : ∃ j, k = j + 2 := ⟨k - 2, by omega⟩
    have hql := g.qle; have h0 := g.q0; have hr := g.hr; have hr' := g.hr'; have ha := g.ha; have ha' := g.ha'; have hu := g.hu; have hu' := g.hu'
    have step : ∀ t : Bool, (t = true ↔ (U * 4294967296 + u) / Y < q) → bits_Div64.j1 (k + 1) Y s a b U u un0 q r t = some R := by
      intro t ht
      simp only [bits_Div64.j1]
      by_cases hlt : (U * 4294967296 + u) / Y < q
      · have hb := g.back hlt
        rw [if_pos (ht.2 hlt), wu64 (x := r + a) (by omega) (by omega), wu64 (x := q - 1) (by omega) (by omega)]
        by_cases hbr : r + a ≥ 4294967296
        · rw [if_pos hbr, hb.1 hbr]; exact h k (by omega)
        · rw [if_neg hbr]; exact ih k (q - 1) (r + a) (by omega) (by omega) (hb.2 (by omega))
      · rw [if_neg (fun e => hlt (ht.1 e))]
        have e : q = (U * 4294967296 + u) / Y := by have := g.hge; omega
        rw [e]; exact h k (by omega)
    show bits_Div64.l0 (k + 1 + 1) Y s a b U u un0 q r = some R
    simp only [bits_Div64.l0]
    by_cases hq : q ≥ 4294967296
    · rw [if_pos hq]; exact step true ⟨fun _ => by omega, fun _ => rfl⟩
    · rw [if_neg hq]
      have ht := g.test (by omega)
      refine step _ ?_
      rw [wu64 (x := q * b) ht.2.1 ht.2.2, wu64 (x := 4294967296 * r) (by omega) (by omega), wu64 (by omega) (by omega), decide_eq_true_eq, ← ht.1]
      constructor <;> (intro g; omega)
theorem div_l1 (Y s a b u q1 U : Int) (hs : 0 ≤ s) (m : Nat) :
    ∀ (k : Nat) (q r : Int), 2 * m + 2 ≤ k → 4294967296 - r ≤ (m : Int) * 2147483648 → Guess Y a b U u q r →
      bits_Div64.l1 k Y s a b u q1 r U q = some (IntKind.u64.wrap (IntKind.u64.wrap (q1 * 4294967296) + (U * 4294967296 + u) / Y), shr .u64 (IntKind.u64.wrap (IntKind.u64.wrap (IntKind.u64.wrap (U * 4294967296) + u) - IntKind.u64.wrap ((U * 4294967296 + u) / Y * Y))) s) := by
  induction m with
  | zero => intro k q r _ hm g; have := g.hr'; omega
  | succ m ih =>
    intro k q r hk hm g
    obtain ⟨k, rfl⟩ : ∃ j, k = j + 2 := ⟨k - 2, by omega⟩
    have hql := g.qle; have h0 := g.q0; have hr := g.hr; have hr' := g.hr'; have ha := g.ha; have ha' := g.ha'; have hu := g.hu; have hu' := g.hu'
    have step : ∀ t : Bool, (t = true ↔ (U * 4294967296 + u) / Y < q) → bits_Div64.j4 (k + 1) Y s a b u q1 r U q t = some (IntKind.u64.wrap (IntKind.u64.wrap (q1 * 4294967296) + (U * 4294967296 + u) / Y), shr .u64 (IntKind.u64.wrap (IntKind.u64.wrap (IntKind.u64.wrap (U * 4294967296) + u) - IntKind.u64.wrap ((U * 4294967296 + u) / Y * Y))) s) := by
      intro t ht
      simp only [bits_Div64.j4]
      by_cases hlt : (U * 4294967296 + u) / Y < q
      · have hb := g.back hlt
        rw [if_pos (ht.2 hlt), wu64 (x := r + a) (by omega) (by omega), wu64 (x := q - 1) (by omega) (by omega)]
        by_cases hbr : r + a ≥ 4294967296
        · rw [if_pos hbr, if_pos hs, hb.1 hbr]
        · rw [if_neg hbr]; exact ih k (q - 1) (r + a) (by omega) (by omega) (hb.2 (by omega))
      · rw [if_neg (fun e => hlt (ht.1 e)), if_pos hs]
        have e : q = (U * 4294967296 + u) / Y := by have := g.hge; omega
        rw [← e]
    show bits_Div64.l1 (k + 1 + 1) Y s a b u q1 r U q = _
    simp only [bits_Div64.l1]
    by_cases hq : q ≥ 4294967296
    · rw [if_pos hq]; exact step true ⟨fun _ => by omega, fun _ => rfl⟩
    · rw [if_neg hq]
      have ht := g.test (by omega)
      refine step _ ?_
      rw [wu64 (x := q * b) ht.2.1 ht.2.2, wu64 (x := 4294967296 * r) (by omega) (by omega), wu64 (by omega) (by omega), decide_eq_true_eq, ← ht.1]
      constructor <;> (intro g; omega)
theorem left_over {U u Y : Int} (hU : 0 ≤ U) (hu : 0 ≤ u) (hY : 0 < Y) (hY' : Y < 18446744073709551616) :
    IntKind.u64.wrap (IntKind.u64.wrap (IntKind.u64.wrap (U * 4294967296) + u) - IntKind.u64.wrap ((U * 4294967296 + u) / Y * Y)) = (U * 4294967296 + u) % Y := by
  have h1 := Int.emod_nonneg (U * 4294967296 + u) (Int.ne_of_gt hY)
  have h2 := Int.emod_lt_of_pos (U * 4294967296 + u) hY
  have h3 := Int.emod_add_mul_ediv (U * 4294967296 + u) Y
  rw [Int.mul_comm Y] at h3
  rw [IntKind.wrap_u64, IntKind.wrap_u64, IntKind.wrap_u64, IntKind.wrap_u64]
  generalize (U * 4294967296 + u) / Y * Y = p at h3 ⊢
  generalize (U * 4294967296 + u) % Y = m at h1 h2 h3 ⊢
  omega
theorem div_f0 {k : Nat} {hi lo y s : Int} (hk : 30 ≤ k) (hs0 : 0 ≤ s) (hs1 : s ≤ 63) (hy : 0 < y) (hY0 : 9223372036854775808 ≤ y * 2 ^ s.toNat) (hY1 : y * 2 ^ s.toNat < 18446744073709551616)
    (hh : 0 < hi) (hhy : hi < y) (hl : 0 ≤ lo) (hl' : lo < 18446744073709551616) :
    bits_Div64.l0 k (y * 2 ^ s.toNat) s (y * 2 ^ s.toNat / 4294967296) (y * 2 ^ s.toNat % 4294967296) ((hi * 18446744073709551616 + lo) * 2 ^ s.toNat / 18446744073709551616)
      ((hi * 18446744073709551616 + lo) * 2 ^ s.toNat % 18446744073709551616 / 4294967296) ((hi * 18446744073709551616 + lo) * 2 ^ s.toNat % 4294967296)
      ((hi * 18446744073709551616 + lo) * 2 ^ s.toNat / 18446744073709551616 / (y * 2 ^ s.toNat / 4294967296))
      ((hi * 18446744073709551616 + lo) * 2 ^ s.toNat / 18446744073709551616 - (hi * 18446744073709551616 + lo) * 2 ^ s.toNat / 18446744073709551616 / (y * 2 ^ s.toNat / 4294967296) * (y * 2 ^ s.toNat / 4294967296)) =
    some ((hi * 18446744073709551616 + lo) / y, (hi * 18446744073709551616 + lo) % y) := by
  have hS : (0 : Int) < 2 ^ s.toNat := Int.pow_pos (by decide)
  have hV : (hi * 18446744073709551616 + lo) * 2 ^ s.toNat < 18446744073709551616 * (y * 2 ^ s.toNat) := by
    have h1 : (hi * 18446744073709551616 + lo) * 2 ^ s.toNat < (18446744073709551616 * y) * 2 ^ s.toNat := Int.mul_lt_mul_of_pos_right (by omega) hS
    rw [Int.mul_assoc] at h1; exact h1
  have hV0 : 0 ≤ (hi * 18446744073709551616 + lo) * 2 ^ s.toNat := Int.mul_nonneg (by omega) (by omega)
  have hVv : 0 ≤ hi * 18446744073709551616 + lo := by omega
  have hdv : (hi * 18446744073709551616 + lo) * 2 ^ s.toNat / (y * 2 ^ s.toNat) = (hi * 18446744073709551616 + lo) / y := Int.mul_ediv_mul_of_pos_left _ _ hS
  have hmv : (hi * 18446744073709551616 + lo) * 2 ^ s.toNat % (y * 2 ^ s.toNat) = (hi * 18446744073709551616 + lo) % y * 2 ^ s.toNat := by
    rw [Int.mul_comm _ (2 ^ s.toNat), Int.mul_comm y, Int.mul_emod_mul_of_pos _ _ hS, Int.mul_comm]
  have hmlt := Int.emod_lt_of_pos (hi * 18446744073709551616 + lo) hy
  have hm0 := Int.emod_nonneg (hi * 18446744073709551616 + lo) (Int.ne_of_gt hy)
  have hd0 := Int.ediv_nonneg hVv (Int.le_of_lt hy)
  have hd1 : (hi * 18446744073709551616 + lo) / y < 18446744073709551616 := by
    apply Int.ediv_lt_of_lt_mul hy
    have : hi * 18446744073709551616 + lo < 18446744073709551616 * y := by omega
    omega
  generalize hVg : (hi * 18446744073709551616 + lo) * 2 ^ s.toNat = V at *
  generalize hYg : y * 2 ^ s.toNat = Y at *
  generalize hUg : V / 18446744073709551616 = U at *
  have e1 : V = U * 18446744073709551616 + V % 18446744073709551616 := by omega
  generalize hu1 : V % 18446744073709551616 / 4294967296 = u1 at *
  generalize hu0 : V % 4294967296 = u0 at *
  have e2 : V % 18446744073709551616 = u1 * 4294967296 + u0 := by omega
  have hUY : U < Y := by omega
  have G1 := Guess.mkk (Y := Y) (a := Y / 4294967296) (b := Y % 4294967296) (U := U) (u := u1) (by omega) (by omega) (by omega) (by omega) (by omega) (by omega) hUY (by omega) (by omega)
  have hW1 := Int.emod_nonneg (U * 4294967296 + u1) (show Y ≠ 0 by omega)
  have hW2 := Int.emod_lt_of_pos (U * 4294967296 + u1) (show 0 < Y by omega)
  have hWe := Int.emod_add_mul_ediv (U * 4294967296 + u1) Y
  have hQ1 := G1.q0
  have hlo := left_over (U := U) (u := u1) (Y := Y) (by omega) (by omega) (by omega) hY1
  generalize hWg : (U * 4294967296 + u1) % Y = W at *
  have G2 := Guess.mkk (Y := Y) (a := Y / 4294967296) (b := Y % 4294967296) (U := W) (u := u0) (by omega) (by omega) (by omega) (by omega) (by omega) hW1 hW2 (by omega) (by omega)
  have hlo2 := left_over (U := W) (u := u0) (Y := Y) hW1 (by omega) (by omega) hY1
  have hQ2 := G2.q0
  have hX1 := Int.emod_nonneg (W * 4294967296 + u0) (show Y ≠ 0 by omega)
  have hX2 := Int.emod_lt_of_pos (W * 4294967296 + u0) (show 0 < Y by omega)
  have hXe := Int.emod_add_mul_ediv (W * 4294967296 + u0) Y
  have hVq : V = Y * ((U * 4294967296 + u1) / Y * 4294967296 + (W * 4294967296 + u0) / Y) + (W * 4294967296 + u0) % Y := by
    rw [Int.mul_add, ← Int.mul_assoc]; omega
  have hq : V / Y = (U * 4294967296 + u1) / Y * 4294967296 + (W * 4294967296 + u0) / Y := by
    rw [hVq, Int.add_comm, Int.add_mul_ediv_left _ _ (by omega), Int.ediv_eq_zero_of_lt hX1 hX2]; omega
  have hr : V % Y = (W * 4294967296 + u0) % Y := by
    rw [hVq, Int.add_comm, Int.add_mul_emod_self_left]; exact Int.emod_eq_of_lt hX1 hX2
  have h2 : ∀ k, 7 ≤ k → bits_Div64.j2 k Y s (Y / 4294967296) (Y % 4294967296) U u1 u0 ((U * 4294967296 + u1) / Y) = some ((hi * 18446744073709551616 + lo) / y, (hi * 18446744073709551616 + lo) % y) := by
    intro k hk
    obtain ⟨k, rfl⟩ := succ_of (show 0 < k by omega)
    simp only [bits_Div64.j2]
    have hWa : Int.tdiv W (Y / 4294967296) = W / (Y / 4294967296) := Int.tdiv_eq_ediv_of_nonneg hW1
    have hq2 := G2.qle
    have hrr := G2.hr; have hrr' := G2.hr'
    have hp : 0 ≤ W / (Y / 4294967296) * (Y / 4294967296) := Int.mul_nonneg hq2.1 (by omega)
    rw [if_neg (by omega), hlo, hWa, wu64 (x := W / (Y / 4294967296)) (by omega) (by omega), wu64 (x := W / (Y / 4294967296) * (Y / 4294967296)) hp (by omega), wu64 (by omega) (by omega)]
    rw [div_l1 Y s _ _ u0 _ W hs0 2 k _ _ (by omega) (by omega) G2, hlo2, ← hr, hmv, wu64 (x := (U * 4294967296 + u1) / Y * 4294967296) (by omega) (by omega), ← hq, hdv, wu64 hd0 hd1]
    unfold shr
    have e64 : min s.toNat IntKind.u64.bits = s.toNat := Nat.min_eq_left (by show s.toNat ≤ 64; omega)
    rw [e64, Int.mul_ediv_cancel _ (by omega)]
  exact div_l0 Y s _ _ U u1 u0 7 _ h2 2 k _ _ (by omega) (by have := G1.hr; omega) G1
theorem div_f {k : Nat} {hi lo y : Int} (hk : 30 ≤ k) (hh : 0 ≤ hi) (hhy : hi < y) (hy' : y < 18446744073709551616) (hl : 0 ≤ lo) (hl' : lo < 18446744073709551616) :
    bits_Div64.f k hi lo y = some ((hi * 18446744073709551616 + lo) / y, (hi * 18446744073709551616 + lo) % y) := by
  unfold bits_Div64.f
  rw [if_neg (by omega), if_neg (by omega)]
  by_cases h0 : hi = 0
  · subst h0
    have h1 := Int.ediv_nonneg hl (show 0 ≤ y by omega)
    have h2 : lo / y ≤ lo := Int.ediv_le_self _ hl
    rw [if_pos rfl, Int.tdiv_eq_ediv_of_nonneg hl, Int.tmod_eq_emod_of_nonneg hl, wu64 h1 (by omega)]
    simp
  rw [if_neg h0]
  unfold bits_LeadingZeros64.f
  rw [if_pos ⟨by omega, hy'⟩]
  simp only [Option.bind_some]
  have hbl := Lib.bitLenAux_bounds 64 y.toNat (by omega) (by omega)
  have hble : Lib.bitLenAux 64 y.toNat ≤ 64 := by
    false_or_by_contra
    have h2 : (2 : Nat) ^ 64 ≤ 2 ^ (Lib.bitLenAux 64 y.toNat - 1) := Nat.pow_le_pow_right (by decide) (by omega)
    omega
  have hle : Lib.bitLen y.toNat = Lib.bitLenAux 64 y.toNat := rfl
  rw [hle]
  generalize Lib.bitLenAux 64 y.toNat = n at hbl hble ⊢
  obtain ⟨s, hs⟩ : ∃ s : Nat, 64 = n + s := ⟨64 - n, by omega⟩
  have e1 : (64 : Int) - (n : Int) = (s : Int) := by omega
  have e3 : IntKind.u64.wrap ((64 : Int) - (n : Int)) = (s : Int) := by rw [e1, wu64 (by omega) (by omega)]
  have e2 : IntKind.u64.wrap (64 - (s : Int)) = (n : Int) := by rw [wu64 (by omega) (by omega)]; omega
  rw [e3, e2, if_pos (by omega), if_pos (by omega)]
  have hSp : (0 : Int) < 2 ^ s := Int.pow_pos (by decide)
  have hSN : (2 : Nat) ^ 64 = 2 ^ n * 2 ^ s := by rw [← Nat.pow_add, ← hs]
  have hNN : (2 : Nat) ^ n = 2 ^ (n - 1) * 2 := by rw [← Nat.pow_succ]; congr 1; omega
  have c1 : ((2 ^ s : Nat) : Int) = (2 : Int) ^ s := by rw [Int.natCast_pow]; rfl
  have hyS : y.toNat * 2 ^ s < 2 ^ 64 := by rw [hSN]; exact Nat.mul_lt_mul_of_pos_right hbl.2.2 (Nat.pow_pos (by decide))
  have hyS2 : 2 ^ 63 ≤ y.toNat * 2 ^ s := by
    have h1 : 2 ^ (n - 1) * 2 ^ s ≤ y.toNat * 2 ^ s := Nat.mul_le_mul_right _ hbl.2.1
    have h2 : 2 ^ (n - 1) * 2 ^ s * 2 = 2 ^ 64 := by rw [hSN, hNN]; ac_rfl
    omega
  have cy : ((y.toNat * 2 ^ s : Nat) : Int) = y * 2 ^ s := by rw [Int.natCast_mul, c1]; congr 1; omega
  have hyI1 : y * 2 ^ s < 18446744073709551616 := by omega
  have hyI2 : 9223372036854775808 ≤ y * 2 ^ s := by omega
  have hshl : ∀ x : Int, shl .u64 x (s : Int) = (x * 2 ^ s) % 18446744073709551616 := by
    intro x; unfold shl; rw [IntKind.wrap_u64, Int.toNat_natCast]
    have e64 : min s IntKind.u64.bits = s := Nat.min_eq_left (by show s ≤ 64; omega)
    rw [e64]
  have hshr : shr .u64 lo (n : Int) = lo / 2 ^ n := by
    unfold shr; rw [Int.toNat_natCast]
    have e64 : min n IntKind.u64.bits = n := Nat.min_eq_left (by show n ≤ 64; omega)
    rw [e64]
  have hSI : (18446744073709551616 : Int) = 2 ^ n * 2 ^ s := by rw [← Int.pow_add, ← hs]; decide
  have hNp : (0 : Int) < 2 ^ n := Int.pow_pos (by decide)
  rw [hshl, hshl, hshl, hshr, Int.emod_eq_of_lt (a := y * 2 ^ s) (by omega) hyI1]
  have hhS : hi * 2 ^ s < 18446744073709551616 := by
    have : hi * 2 ^ s < y * 2 ^ s := Int.mul_lt_mul_of_pos_right hhy hSp
    omega
  have hhS0 : 0 ≤ hi * 2 ^ s := Int.mul_nonneg hh (by omega)
  rw [Int.emod_eq_of_lt hhS0 hhS]
  have hlS : lo / 2 ^ n < 2 ^ s := by
    apply Int.ediv_lt_of_lt_mul hNp; rw [Int.mul_comm, ← hSI]; exact hl'
  have hlS0 : 0 ≤ lo / 2 ^ n := Int.ediv_nonneg hl (by omega)
  have hor : Go.bits .or .u64 (hi * 2 ^ s) (lo / 2 ^ n) = hi * 2 ^ s + lo / 2 ^ n := by
    obtain ⟨b, hb⟩ := Int.eq_ofNat_of_zero_le hlS0
    obtain ⟨h', hh'⟩ := Int.eq_ofNat_of_zero_le hh
    have hb2 : b < 2 ^ s := by omega
    have cc : hi * 2 ^ s = ((2 ^ s * h' : Nat) : Int) := by rw [hh', Int.natCast_mul, c1, Int.mul_comm]
    have hc1 : 2 ^ s * h' < 18446744073709551616 := by
      have h5 : ((2 ^ s * h' : Nat) : Int) < 18446744073709551616 := by rw [← cc]; exact hhS
      exact Int.ofNat_lt.1 h5
    have hc2 : b < 18446744073709551616 := by have := Int.ediv_le_self (2 ^ n) hl; omega
    rw [hb, cc, bits_or_nat _ _ hc1 hc2, ← Nat.two_pow_add_eq_or_of_lt hb2, Int.natCast_add]
  rw [hor]
  have hV : (hi * 18446744073709551616 + lo) * 2 ^ s = (hi * 2 ^ s + lo / 2 ^ n) * 18446744073709551616 + (lo * 2 ^ s) % 18446744073709551616 := by
    have h1 : lo * 2 ^ s / 18446744073709551616 = lo / 2 ^ n := by rw [hSI]; exact Int.mul_ediv_mul_of_pos_left _ _ hSp
    have h2 : (hi * 18446744073709551616 + lo) * 2 ^ s = hi * 2 ^ s * 18446744073709551616 + lo * 2 ^ s := by
      rw [Int.add_mul]; congr 1; ac_rfl
    rw [h2, ← h1]; omega
  have hVd : (hi * 18446744073709551616 + lo) * 2 ^ s / 18446744073709551616 = hi * 2 ^ s + lo / 2 ^ n := by rw [hV]; omega
  have hVm : (hi * 18446744073709551616 + lo) * 2 ^ s % 18446744073709551616 = lo * 2 ^ s % 18446744073709551616 := by rw [hV]; omega
  have hVm2 : (hi * 18446744073709551616 + lo) * 2 ^ s % 4294967296 = lo * 2 ^ s % 18446744073709551616 % 4294967296 := by rw [hV]; omega
  have hand : ∀ x : Int, 0 ≤ x → x < 18446744073709551616 → Go.bits .and .u64 x 4294967295 = x % 4294967296 := by
    intro x h1 h2
    obtain ⟨m, rfl⟩ := Int.eq_ofNat_of_zero_le h1
    rw [Mul64.maskN m (by omega)]; omega
  rw [hand _ (by omega) hyI1, hand (lo * 2 ^ s % 18446744073709551616) (by omega) (by omega)]
  have hm := @div_f0 k hi lo y (s : Int) hk (by omega) (by omega) (by omega) (by rw [Int.toNat_natCast]; exact hyI2) (by rw [Int.toNat_natCast]; exact hyI1) (by omega) hhy hl hl'
  rw [Int.toNat_natCast, hVd, hVm, hVm2] at hm
  have hU0 : 0 ≤ hi * 2 ^ s + lo / 2 ^ n := by omega
  have hUlt : hi * 2 ^ s + lo / 2 ^ n < y * 2 ^ s := by
    have h1 : (hi + 1) * 2 ^ s ≤ y * 2 ^ s := Int.mul_le_mul_of_nonneg_right (by omega) (by omega)
    rw [Int.add_mul] at h1; omega
  generalize hi * 2 ^ s + lo / 2 ^ n = U at hm hU0 hUlt ⊢
  generalize y * 2 ^ s = Y at hm hyI1 hyI2 hUlt ⊢
  rw [if_neg (by omega), Int.tdiv_eq_ediv_of_nonneg hU0]
  have g := Guess.mkk (Y := Y) (a := Y / 4294967296) (b := Y % 4294967296) (U := U) (u := 0) (by omega) (by omega) (by omega) (by omega) (by omega) hU0 hUlt (by omega) (by omega)
  have hq := g.qle; have hr := g.hr; have hr' := g.hr'
  have hp : 0 ≤ U / (Y / 4294967296) * (Y / 4294967296) := Int.mul_nonneg hq.1 (by omega)
  rw [wu64 (x := U / (Y / 4294967296)) (by omega) (by omega), wu64 (x := U / (Y / 4294967296) * (Y / 4294967296)) hp (by omega), wu64 (x := U - U / (Y / 4294967296) * (Y / 4294967296)) (by omega) (by omega)]
  exact hm
end Go.Proofs.YtgkemhgihbfmmaaDoor.PA
end
section
namespace Go.Proofs.YtgkemhgihbfmmaaDoor.PA
open Go.RowKit Go.Proofs.YtgkemhgihbfmmaaDoorW.PrintWords Go.Proofs.YtgkemhgihbfmmaaDoorW.PrintLast Go.Proofs.YtgkemhgihbfmmaaDoorW.PrintMore
attribute [local go_sem] max2_int min2_int max_two min_two max_three min_three max_four min_four
set_option linter.unusedVariables false
set_option linter.unusedSimpArgs false
def deci_Add.f (k : Nat) (a0_0 : Int) (a0_1 : Int) (a1_0 : Int) (a1_1 : Int) : Option (Int × Int × Int) := (deci_all.f k (([(⟨a0_0, a0_1⟩ : S23), (⟨a1_0, a1_1⟩ : S23)] : List (S23)))).bind fun t331 => (if t331 = 0 then ((deci_units.f k a0_0 a0_1).bind fun t332 => ((deci_units.f k a1_0 a1_1).bind fun t333 => ((deci_form_dec.f k (IntKind.u64.wrap (mx (wrap64 (t332 + t333)) (wrap64 (-(wrap64 (t332 + t333)))))) 6 (decide ((wrap64 (t332 + t333)) < 0))).bind fun bt334 => (some (bt334.1, bt334.2.1, bt334.2.2))))) else (some (0, 0, t331)))
theorem deci_Add.mono : ∀ a0 a1 a2 a3 k, LeO (deci_Add.f k a0 a1 a2 a3) (deci_Add.f (k + 1) a0 a1 a2 a3) := by
  intro a0 a1 a2 a3 k
  unfold deci_Add.f
  repeat' first
      | (with_reducible exact deci_all.mono _ _)
      | (with_reducible exact deci_form_dec.mono _ _ _ _)
      | (with_reducible exact deci_units.mono _ _ _)
      | (with_reducible exact LeO.refl _)
      | (with_reducible exact LeO.none _)
      | (with_reducible refine LeO.ite ?_ ?_)
      | (with_reducible refine LeO.bind ?_ (fun _ => ?_))
      | exact deci_all.mono _ _
      | exact deci_form_dec.mono _ _ _ _
      | exact deci_units.mono _ _ _
      | exact LeO.none _
      | refine LeO.ite ?_ ?_
      | refine LeO.bind ?_ (fun _ => ?_)
set_option maxHeartbeats 8000000 in
set_option maxRecDepth 100000 in
theorem deci_Add.calls (k : Nat) (a0_0 : Int) (a0_1 : Int) (a1_0 : Int) (a1_1 : Int) (r1 : Int) (r2 : Int) (r3 : Int) (w : World) (h : deci_Add.f k a0_0 a0_1 a1_0 a1_1 = some (r1, r2, r3)) :
    Calls Tryd.prog 22 #[.agg #[.int .i64 a0_0, .int .i64 a0_1], .agg #[.int .i64 a1_0, .int .i64 a1_1]] w fun e w' => e = .returned (.tuple #[.agg #[.int .i64 r1, .int .i64 r2], .int .i64 r3]) ∧ Below w.heap.size w w' := by
  have hu23 := Tryd.underlying23
  have hu46 := Tryd.underlying46
  have HB := Aside0.mk (Below.refl w.heap.size w)
  have H : ((deci_all.f k (([(⟨a0_0, a0_1⟩ : S23), (⟨a1_0, a1_1⟩ : S23)] : List (S23)))).bind fun t331 => (if t331 = 0 then ((deci_units.f k a0_0 a0_1).bind fun t332 => ((deci_units.f k a1_0 a1_1).bind fun t333 => ((deci_form_dec.f k (IntKind.u64.wrap (mx (wrap64 (t332 + t333)) (wrap64 (-(wrap64 (t332 + t333)))))) 6 (decide ((wrap64 (t332 + t333)) < 0))).bind fun bt334 => (some (bt334.1, bt334.2.1, bt334.2.2))))) else (some (0, 0, t331)))) = some (r1, r2, r3) := h
  clear h
  obtain ⟨y328, hy328⟩ : ∃ y_ : List (S23), y_ = (([(⟨a0_0, a0_1⟩ : S23), (⟨a1_0, a1_1⟩ : S23)] : List (S23))) := ⟨_, rfl⟩
  replace H : ((deci_all.f k y328).bind fun t331 => (if t331 = 0 then ((deci_units.f k a0_0 a0_1).bind fun t332 => ((deci_units.f k a1_0 a1_1).bind fun t333 => ((deci_form_dec.f k (IntKind.u64.wrap (mx (wrap64 (t332 + t333)) (wrap64 (-(wrap64 (t332 + t333)))))) 6 (decide ((wrap64 (t332 + t333)) < 0))).bind fun bt334 => (some (bt334.1, bt334.2.1, bt334.2.2))))) else (some (0, 0, t331)))) = some (r1, r2, r3) := by first | (rw [hy328]; with_reducible exact H) | (have H2_ := (Option.bind_some _ _).symm.trans H; rw [hy328]; with_reducible exact H2_) | (have H2_ := (Option.bind_some _ _).symm.trans H; with_reducible exact H2_) | with_reducible exact H | (rw [hy328]; exact H) | exact H
  have Ny328 := Aside0.mk hy328
  clear hy328
  replace H := Option.bind_eq_some_iff.mp H
  obtain ⟨t331, A30, H⟩ := H
  replace H : (if t331 = 0 then ((deci_units.f k a0_0 a0_1).bind fun t332 => ((deci_units.f k a1_0 a1_1).bind fun t333 => ((deci_form_dec.f k (IntKind.u64.wrap (mx (wrap64 (t332 + t333)) (wrap64 (-(wrap64 (t332 + t333)))))) 6 (decide ((wrap64 (t332 + t333)) < 0))).bind fun bt334 => (some (bt334.1, bt334.2.1, bt334.2.2))))) else (some (0, 0, t331))) = some (r1, r2, r3) := H
  have A3 := Aside0.mk A30
  clear A30
  by_cases c4 : t331 = 0
  · rw [if_pos c4] at H
    have c4b0 : (t331 == 0) = true := beq_iff_eq.mpr c4
    have c4b1 : (t331 != 0) = false := bne_eq_false_iff_eq.mpr c4
    clear c4
    replace H := Option.bind_eq_some_iff.mp H
    obtain ⟨t332, A50, H⟩ := H
    replace H : ((deci_units.f k a1_0 a1_1).bind fun t333 => ((deci_form_dec.f k (IntKind.u64.wrap (mx (wrap64 (t332 + t333)) (wrap64 (-(wrap64 (t332 + t333)))))) 6 (decide ((wrap64 (t332 + t333)) < 0))).bind fun bt334 => (some (bt334.1, bt334.2.1, bt334.2.2)))) = some (r1, r2, r3) := H
    have A5 := Aside0.mk A50
    clear A50
    replace H := Option.bind_eq_some_iff.mp H
    obtain ⟨t333, A60, H⟩ := H
    replace H : ((deci_form_dec.f k (IntKind.u64.wrap (mx (wrap64 (t332 + t333)) (wrap64 (-(wrap64 (t332 + t333)))))) 6 (decide ((wrap64 (t332 + t333)) < 0))).bind fun bt334 => (some (bt334.1, bt334.2.1, bt334.2.2))) = some (r1, r2, r3) := H
    have A6 := Aside0.mk A60
    clear A60
    obtain ⟨ji7, hji7⟩ : ∃ j_ : Int, (mx (wrap64 (t332 + t333)) (wrap64 (-(wrap64 (t332 + t333))))) = j_ := ⟨_, rfl⟩
    replace H : ((deci_form_dec.f k (IntKind.u64.wrap (ji7)) 6 (decide ((wrap64 (t332 + t333)) < 0))).bind fun bt334 => (some (bt334.1, bt334.2.1, bt334.2.2))) = some (r1, r2, r3) := by first | (rw [hji7] at H; exact H) | (simp only [hji7] at H ⊢; exact H)
    (try rw [hji7] at A3)
    (try rw [hji7] at A5)
    (try rw [hji7] at A6)
    have hji7_ : (if (wrap64 (t332 + t333)) < (wrap64 (-(wrap64 (t332 + t333)))) then (wrap64 (-(wrap64 (t332 + t333)))) else (wrap64 (t332 + t333))) = ji7 := hji7
    replace H := Option.bind_eq_some_iff.mp H
    obtain ⟨⟨t334, t335, t336⟩, A80, H⟩ := H
    replace H : (some (t334, t335, t336)) = some (r1, r2, r3) := H
    have A8 := Aside0.mk A80
    clear A80
    simp only [Option.some.injEq, Prod.mk.injEq] at H
    obtain ⟨rfl, rfl, rfl⟩ := H
    go_enter Tryd.func22, Tryd.ntmps22
    try go_wp2_with (first | ((with_reducible refine gate_dst (N := 2) rfl ?_); refine box_event ?hg (N := 2) ?hd (cs := #[.int .i64 a0_0, .int .i64 a0_1]) (t := 23) ?hr ?_; (case hd => rfl); (case hg => rfl); (case hr => first | (go_simp; done) | (go_simp; rfl)); intro gb325 hg w9 hbox hb; have n0_ := Aside0.mk (below_step (by repeat (first | (with_reducible first | exact HB.out | apply below_alloc | apply pw_below_drewN | apply below_drew1) | exact HB.out)) hb); have n1_ := Aside0.mk (hbox); have n2_ := Aside0.mk ((by rw [hg]; exact (below_size (by repeat (first | (with_reducible first | exact HB.out | apply below_alloc | apply pw_below_drewN | apply below_drew1) | exact HB.out))) : w.heap.size ≤ gb325)); have n3_ := Aside0.mk ((by rw [hg]; exact (below_size (by repeat (first | (with_reducible first | exact HB.out | apply below_alloc | apply pw_below_drewN | apply below_drew1) | exact HB.out))) : w.heap.size ≤ gb325)); clear HB; have HB := n0_; have BK325 := n1_; have GW325 := n2_; have GE325 := n3_; clear n0_ n1_ n2_ n3_; clear hb hbox hg) | ((with_reducible refine gate_dst (N := 3) rfl ?_); refine box_event ?hg (N := 3) ?hd (cs := #[.int .i64 a1_0, .int .i64 a1_1]) (t := 23) ?hr ?_; (case hd => rfl); (case hg => rfl); (case hr => first | (go_simp; done) | (go_simp; rfl)); intro gb326 hg w10 hbox hb; have n0_ := Aside0.mk (blk_below (g := gb325) (o := .cells #[.int .i64 a0_0, .int .i64 a0_1] 23 (0, 0)) (by (with_reducible repeat (first | refine blk_drewN ?_ _ | refine blk_drew ?_ | refine blk_alloc ?_ _)); exact BK325.out) hb); have n1_ := Aside0.mk (below_step (by repeat (first | (with_reducible first | exact HB.out | apply below_alloc | apply pw_below_drewN | apply below_drew1 | refine below_set ?_ GE325.out) | exact HB.out)) hb); have n2_ := Aside0.mk (hbox); have n3_ := Aside0.mk ((by rw [hg]; exact (below_size (by repeat (first | (with_reducible first | exact HB.out | apply below_alloc | apply pw_below_drewN | apply below_drew1 | refine below_set ?_ GE325.out) | exact HB.out))) : w.heap.size ≤ gb326)); have n4_ := Aside0.mk ((by rw [hg]; exact (below_size (by repeat (first | (with_reducible first | exact HB.out | apply below_alloc | apply pw_below_drewN | apply below_drew1 | refine below_set ?_ GE325.out) | exact HB.out))) : w.heap.size ≤ gb326)); have n5_ := Aside0.mk ((by rw [hg]; exact Nat.ne_of_lt (blk_lt (g := gb325) (o := .cells #[.int .i64 a0_0, .int .i64 a0_1] 23 (0, 0)) (by (with_reducible repeat (first | refine blk_drewN ?_ _ | refine blk_drew ?_ | refine blk_alloc ?_ _)); exact BK325.out)) : gb325 ≠ gb326)); have n6_ := Aside0.mk ((by rw [hg]; exact Nat.ne_of_gt (blk_lt (g := gb325) (o := .cells #[.int .i64 a0_0, .int .i64 a0_1] 23 (0, 0)) (by (with_reducible repeat (first | refine blk_drewN ?_ _ | refine blk_drew ?_ | refine blk_alloc ?_ _)); exact BK325.out)) : gb326 ≠ gb325)); clear BK325; clear HB; have BK325 := n0_; have HB := n1_; have BK326 := n2_; have GW326 := n3_; have GE326 := n4_; have NB325_326 := n5_; have NB326_325 := n6_; clear n0_ n1_ n2_ n3_ n4_ n5_ n6_; clear hb hbox hg) | ((with_reducible refine gate_dst (N := 4) rfl ?_); refine box_event ?hg (N := 4) ?hd (cs := #[.int .i64 0, .int .i64 0]) (t := 23) ?hr ?_; (case hd => rfl); (case hg => rfl); (case hr => first | (go_simp; done) | (go_simp; rfl)); intro gb327 hg w11 hbox hb; have n0_ := Aside0.mk (blk_below (g := gb325) (o := .cells #[.int .i64 a0_0, .int .i64 a0_1] 23 (0, 0)) (by (with_reducible repeat (first | refine blk_drewN ?_ _ | refine blk_drew ?_ | refine blk_alloc ?_ _)); exact BK325.out) hb); have n1_ := Aside0.mk (blk_below (g := gb326) (o := .cells #[.int .i64 a1_0, .int .i64 a1_1] 23 (0, 0)) (by (with_reducible repeat (first | refine blk_drewN ?_ _ | refine blk_drew ?_ | refine blk_alloc ?_ _)); exact BK326.out) hb); have n2_ := Aside0.mk (below_step (by repeat (first | (with_reducible first | exact HB.out | apply below_alloc | apply pw_below_drewN | apply below_drew1 | refine below_set ?_ GE325.out | refine below_set ?_ GE326.out) | exact HB.out)) hb); have n3_ := Aside0.mk (hbox); have n4_ := Aside0.mk ((by rw [hg]; exact (below_size (by repeat (first | (with_reducible first | exact HB.out | apply below_alloc | apply pw_below_drewN | apply below_drew1 | refine below_set ?_ GE325.out | refine below_set ?_ GE326.out) | exact HB.out))) : w.heap.size ≤ gb327)); have n5_ := Aside0.mk ((by rw [hg]; exact (below_size (by repeat (first | (with_reducible first | exact HB.out | apply below_alloc | apply pw_below_drewN | apply below_drew1 | refine below_set ?_ GE325.out | refine below_set ?_ GE326.out) | exact HB.out))) : w.heap.size ≤ gb327)); have n6_ := Aside0.mk ((by rw [hg]; exact Nat.ne_of_lt (blk_lt (g := gb325) (o := .cells #[.int .i64 a0_0, .int .i64 a0_1] 23 (0, 0)) (by (with_reducible repeat (first | refine blk_drewN ?_ _ | refine blk_drew ?_ | refine blk_alloc ?_ _)); exact BK325.out)) : gb325 ≠ gb327)); have n7_ := Aside0.mk ((by rw [hg]; exact Nat.ne_of_gt (blk_lt (g := gb325) (o := .cells #[.int .i64 a0_0, .int .i64 a0_1] 23 (0, 0)) (by (with_reducible repeat (first | refine blk_drewN ?_ _ | refine blk_drew ?_ | refine blk_alloc ?_ _)); exact BK325.out)) : gb327 ≠ gb325)); have n8_ := Aside0.mk ((by rw [hg]; exact Nat.ne_of_lt (blk_lt (g := gb326) (o := .cells #[.int .i64 a1_0, .int .i64 a1_1] 23 (0, 0)) (by (with_reducible repeat (first | refine blk_drewN ?_ _ | refine blk_drew ?_ | refine blk_alloc ?_ _)); exact BK326.out)) : gb326 ≠ gb327)); have n9_ := Aside0.mk ((by rw [hg]; exact Nat.ne_of_gt (blk_lt (g := gb326) (o := .cells #[.int .i64 a1_0, .int .i64 a1_1] 23 (0, 0)) (by (with_reducible repeat (first | refine blk_drewN ?_ _ | refine blk_drew ?_ | refine blk_alloc ?_ _)); exact BK326.out)) : gb327 ≠ gb326)); clear BK325; clear BK326; clear HB; have BK325 := n0_; have BK326 := n1_; have HB := n2_; have BK327 := n3_; have GW327 := n4_; have GE327 := n5_; have NB325_327 := n6_; have NB327_325 := n7_; have NB326_327 := n8_; have NB327_326 := n9_; clear n0_ n1_ n2_ n3_ n4_ n5_ n6_ n7_ n8_ n9_; clear hb hbox hg; have hnb12 := NB325_326.out; have hnc12 := NB326_325.out; have hnb13 := NB325_327.out; have hnc13 := NB327_325.out; have hcz14_0 : w11.cell? ⟨gb325, 0, none⟩ = some (.int .i64 a0_0) := (blk_cell BK325.out 0).trans rfl; have hcz14_1 : w11.cell? ⟨gb325, 1, none⟩ = some (.int .i64 a0_1) := (blk_cell BK325.out 1).trans rfl; have hfz14_0 := blk_frozen BK325.out 0; have hfz14_1 := blk_frozen BK325.out 1; have hnb15 := NB326_327.out; have hnc15 := NB327_326.out; have hcz16_0 : w11.cell? ⟨gb326, 0, none⟩ = some (.int .i64 a1_0) := (blk_cell BK326.out 0).trans rfl; have hcz16_1 : w11.cell? ⟨gb326, 1, none⟩ = some (.int .i64 a1_1) := (blk_cell BK326.out 1).trans rfl; have hfz16_0 := blk_frozen BK326.out 0; have hfz16_1 := blk_frozen BK326.out 1) | ((with_reducible refine gate_dst (N := 10) rfl ?_); refine Kd.R_lit k23 _ 23 ?hg (N := 10) ?hd (xs := ([(⟨a0_0, a0_1⟩ : S23), (⟨a1_0, a1_1⟩ : S23)] : List (S23))) (inner := [.int .i64 a0_0, .int .i64 a0_1, .int .i64 a1_0, .int .i64 a1_1]) (ok := fun _ => True) (okp := fun _ => True) ?hr ?hp (fun _ hk => hk) trivial (Below.refl _ _) (Nat.le_refl _) (by simp) ?_; (case hd => rfl); (case hg => rfl); (case hr => first | (go_simp; done) | (go_simp; rfl)); (case hp => exact (Reps.c2 (show Kd.M k23 _ _ _ (⟨a0_0, a0_1⟩ : S23) [.int .i64 a0_0, .int .i64 a0_1] from (k23_mkM _ _ _ (⟨a0_0, a0_1⟩ : S23) )) (Reps.c2 (show Kd.M k23 _ _ _ (⟨a1_0, a1_1⟩ : S23) [.int .i64 a1_0, .int .i64 a1_1] from (k23_mkM _ _ _ (⟨a1_0, a1_1⟩ : S23) )) (Reps.none _ _)))); intro v329 w17 ho18 hb hg_ hnew_; clear hg_ hnew_; (first | rw [← Ny328.out] at ho18 | (simp only [Int.reduceToNat] at ho18; rw [← Ny328.out] at ho18)); have n0_ := Aside0.mk (Kd.R_lower (Kd.R_newB (Kd.R_newB (Kd.R_newB ho18 (g := gb325) (o := .cells #[.int .i64 a0_0, .int .i64 a0_1] 23 (0, 0)) (by (with_reducible repeat (first | refine blk_drewN ?_ _ | refine blk_drew ?_ | refine blk_alloc ?_ _)); exact BK325.out)) (g := gb326) (o := .cells #[.int .i64 a1_0, .int .i64 a1_1] 23 (0, 0)) (by (with_reducible repeat (first | refine blk_drewN ?_ _ | refine blk_drew ?_ | refine blk_alloc ?_ _)); exact BK326.out)) (g := gb327) (o := .cells #[.int .i64 0, .int .i64 0] 23 (0, 0)) (by (with_reducible repeat (first | refine blk_drewN ?_ _ | refine blk_drew ?_ | refine blk_alloc ?_ _)); exact BK327.out)) (below_size (by repeat (first | (with_reducible first | exact HB.out | apply below_alloc | apply pw_below_drewN | apply below_drew1 | refine below_set ?_ GE325.out | refine below_set ?_ GE326.out | refine below_set ?_ GE327.out) | exact HB.out)))); have n1_ := Aside0.mk (blk_below (g := gb325) (o := .cells #[.int .i64 a0_0, .int .i64 a0_1] 23 (0, 0)) (by (with_reducible repeat (first | refine blk_drewN ?_ _ | refine blk_drew ?_ | refine blk_alloc ?_ _)); exact BK325.out) hb); have n2_ := Aside0.mk (blk_below (g := gb326) (o := .cells #[.int .i64 a1_0, .int .i64 a1_1] 23 (0, 0)) (by (with_reducible repeat (first | refine blk_drewN ?_ _ | refine blk_drew ?_ | refine blk_alloc ?_ _)); exact BK326.out) hb); have n3_ := Aside0.mk (blk_below (g := gb327) (o := .cells #[.int .i64 0, .int .i64 0] 23 (0, 0)) (by (with_reducible repeat (first | refine blk_drewN ?_ _ | refine blk_drew ?_ | refine blk_alloc ?_ _)); exact BK327.out) hb); have n4_ := Aside0.mk (below_step (by repeat (first | (with_reducible first | exact HB.out | apply below_alloc | apply pw_below_drewN | apply below_drew1 | refine below_set ?_ GE325.out | refine below_set ?_ GE326.out | refine below_set ?_ GE327.out) | exact HB.out)) hb); clear BK325; clear BK326; clear BK327; clear HB; have HO330 := n0_; have BK325 := n1_; have BK326 := n2_; have BK327 := n3_; have HB := n4_; clear n0_ n1_ n2_ n3_ n4_; clear hb ho18; obtain ⟨Ao19, co19, eo19⟩ := Kd.R_slice HO330.out; subst eo19) | ((with_reducible refine gate_callee (f := 27) rfl ?_); refine goesL_ (some 11) rfl rfl Tryd.func27 (by kernel_rfl) rfl #[.slice Ao19 y328.length co19] rfl (by (try simp only [List.map_toArray, List.map_cons, List.map_nil]); first | done | rfl | (simp only [List.length_drop, List.length_take]; rfl)) ?_; (with_reducible refine (deci_all.calls k _ _ y328 t331 _ ?side1 ?side2 A3.out).mono ?_); (case side1 => repeat (first | exact (Kd.R_reads' HO330.out).2.2 | (with_reducible refine Kd.C_alloc ?_ _) | (with_reducible refine Kd.C_drewN ?_ _) | (with_reducible refine Kd.C_drew ?_))); (case side2 => exact (Kd.R_reads' HO330.out).2.1); rintro e w20 ⟨rfl, hb⟩; refine ⟨_, rfl, ?_⟩; have n0_ := Aside0.mk (Kd.R_below (by (with_reducible repeat (first | apply Kd.R_alloc | apply Kd.R_drewN | apply Kd.R_drew)); exact HO330.out) hb); have n1_ := Aside0.mk (blk_below (g := gb325) (o := .cells #[.int .i64 a0_0, .int .i64 a0_1] 23 (0, 0)) (by (with_reducible repeat (first | refine blk_drewN ?_ _ | refine blk_drew ?_ | refine blk_alloc ?_ _)); exact BK325.out) hb); have n2_ := Aside0.mk (blk_below (g := gb326) (o := .cells #[.int .i64 a1_0, .int .i64 a1_1] 23 (0, 0)) (by (with_reducible repeat (first | refine blk_drewN ?_ _ | refine blk_drew ?_ | refine blk_alloc ?_ _)); exact BK326.out) hb); have n3_ := Aside0.mk (blk_below (g := gb327) (o := .cells #[.int .i64 0, .int .i64 0] 23 (0, 0)) (by (with_reducible repeat (first | refine blk_drewN ?_ _ | refine blk_drew ?_ | refine blk_alloc ?_ _)); exact BK327.out) hb); have n4_ := Aside0.mk (below_step (by repeat (first | (with_reducible first | exact HB.out | apply below_alloc | apply pw_below_drewN | apply below_drew1 | refine below_set ?_ GE325.out | refine below_set ?_ GE326.out | refine below_set ?_ GE327.out) | exact HB.out)) hb); clear HO330; clear BK325; clear BK326; clear BK327; clear HB; have HO330 := n0_; have BK325 := n1_; have BK326 := n2_; have BK327 := n3_; have HB := n4_; clear n0_ n1_ n2_ n3_ n4_; (try clear hb); (try clear hb2); (try clear hk); (try clear hi)))
    have n0_ := Aside0.mk (Kd.R_drew HO330.out)
    have n1_ := Aside0.mk (blk_drew BK325.out)
    have n2_ := Aside0.mk (blk_drew BK326.out)
    have n3_ := Aside0.mk (blk_drew BK327.out)
    have n4_ := Aside0.mk (below_drew1 HB.out)
    clear HO330
    clear BK325
    clear BK326
    clear BK327
    clear HB
    have HO330 := n0_
    have BK325 := n1_
    have BK326 := n2_
    have BK327 := n3_
    have HB := n4_
    clear n0_ n1_ n2_ n3_ n4_
    refine start_ (n := 6) (S := fun w' => w'.cell? ⟨gb325, 0, none⟩ = some (.int .i64 a0_0) ∧ w'.cell? ⟨gb325, 1, none⟩ = some (.int .i64 a0_1) ∧ w'.cell? ⟨gb326, 0, none⟩ = some (.int .i64 a1_0) ∧ w'.cell? ⟨gb326, 1, none⟩ = some (.int .i64 a1_1)) (ds := []) #[false, false, false, false, false, false] (by kernel_rfl) rfl rfl ⟨(blk_cell BK325.out 0).trans rfl, (blk_cell BK325.out 1).trans rfl, (blk_cell BK326.out 0).trans rfl, (blk_cell BK326.out 1).trans rfl⟩ (fun hHeld => ?_)
    generalize w20.drew = w21 at HO330 BK325 BK326 BK327 HB hHeld ⊢
    refine take_ (i := 0) (N := some 16) (v := ?_) (a' := ?_) #[true, false, false, false, false, false] rfl rfl (by kernel_rfl) (fun _ _ _ h => h) (Or.inl ⟨by rfl, ?_⟩) hHeld ?_ ?_
    rotate_left
    · rintro w' ⟨s0, s1, s2, s3⟩
      go_simp
      with_reducible rfl
    rotate_left
    · simp only [Act.put, List.setIfInBounds_toArray, List.set_cons_zero, List.set_cons_succ, i64_w, i32_w]
      rfl
    refine take_ (i := 2) (N := some 18) (v := ?_) (a' := ?_) #[true, false, true, false, false, false] rfl rfl (by kernel_rfl) (fun _ _ _ h => h) (Or.inl ⟨by rfl, ?_⟩) hHeld ?_ ?_
    rotate_left
    · rintro w' ⟨s0, s1, s2, s3⟩
      go_simp
      with_reducible rfl
    rotate_left
    · simp only [Act.put, List.setIfInBounds_toArray, List.set_cons_zero, List.set_cons_succ, i64_w, i32_w]
      rfl
    refine one_ (i := 1) (N := some 17) #[true, true, true, false, false, false] rfl rfl (by kernel_rfl) (by decide) (fun K hK => ?_)
    refine goes_ Tryd.func42 (by kernel_rfl) rfl #[.agg #[.int .i64 a0_0, .int .i64 a0_1]] (by rfl) rfl rfl (by (try simp only [List.map_toArray, List.map_cons, List.map_nil]); first | done | rfl | (simp only [List.length_drop, List.length_take]; rfl)) ?_
    with_reducible refine (deci_units.calls k a0_0 a0_1 t332 _ A5.out).mono ?_
    rintro e w22 ⟨rfl, hb⟩
    refine ⟨_, rfl, ?_⟩
    have n0_ := Aside0.mk (Kd.R_below (by (with_reducible repeat (first | apply Kd.R_alloc | apply Kd.R_drewN | apply Kd.R_drew)); exact HO330.out) hb)
    have n1_ := Aside0.mk (blk_below (g := gb325) (o := .cells #[.int .i64 a0_0, .int .i64 a0_1] 23 (0, 0)) (by (with_reducible repeat (first | refine blk_drewN ?_ _ | refine blk_drew ?_ | refine blk_alloc ?_ _)); exact BK325.out) hb)
    have n2_ := Aside0.mk (blk_below (g := gb326) (o := .cells #[.int .i64 a1_0, .int .i64 a1_1] 23 (0, 0)) (by (with_reducible repeat (first | refine blk_drewN ?_ _ | refine blk_drew ?_ | refine blk_alloc ?_ _)); exact BK326.out) hb)
    have n3_ := Aside0.mk (blk_below (g := gb327) (o := .cells #[.int .i64 0, .int .i64 0] 23 (0, 0)) (by (with_reducible repeat (first | refine blk_drewN ?_ _ | refine blk_drew ?_ | refine blk_alloc ?_ _)); exact BK327.out) hb)
    have n4_ := Aside0.mk (below_step (by repeat (first | (with_reducible first | exact HB.out | apply below_alloc | apply pw_below_drewN | apply below_drew1 | refine below_set ?_ GE325.out | refine below_set ?_ GE326.out | refine below_set ?_ GE327.out) | exact HB.out)) hb)
    clear HO330
    clear BK325
    clear BK326
    clear BK327
    clear HB
    have HO330 := n0_
    have BK325 := n1_
    have BK326 := n2_
    have BK327 := n3_
    have HB := n4_
    clear n0_ n1_ n2_ n3_ n4_
    (try clear hb)
    (try clear hb2)
    (try clear hk)
    (try clear hi)
    refine hK.out _ _ ⟨(blk_cell BK325.out 0).trans rfl, (blk_cell BK325.out 1).trans rfl, (blk_cell BK326.out 0).trans rfl, (blk_cell BK326.out 1).trans rfl⟩ (fun hHeld => ?_)
    clear hK K
    refine norm_ (a' := ?_) ?_ ?_
    rotate_left
    · show Act.put _ (some 17) _ = _
      simp only [Act.put, List.setIfInBounds_toArray, List.set_cons_zero, List.set_cons_succ, i64_w, i32_w]
      rfl
    refine one_ (i := 3) (N := some 19) #[true, true, true, true, false, false] rfl rfl (by kernel_rfl) (by decide) (fun K hK => ?_)
    refine goes_ Tryd.func42 (by kernel_rfl) rfl #[.agg #[.int .i64 a1_0, .int .i64 a1_1]] (by rfl) rfl rfl (by (try simp only [List.map_toArray, List.map_cons, List.map_nil]); first | done | rfl | (simp only [List.length_drop, List.length_take]; rfl)) ?_
    with_reducible refine (deci_units.calls k a1_0 a1_1 t333 _ A6.out).mono ?_
    rintro e w23 ⟨rfl, hb⟩
    refine ⟨_, rfl, ?_⟩
    have n0_ := Aside0.mk (Kd.R_below (by (with_reducible repeat (first | apply Kd.R_alloc | apply Kd.R_drewN | apply Kd.R_drew)); exact HO330.out) hb)
    have n1_ := Aside0.mk (blk_below (g := gb325) (o := .cells #[.int .i64 a0_0, .int .i64 a0_1] 23 (0, 0)) (by (with_reducible repeat (first | refine blk_drewN ?_ _ | refine blk_drew ?_ | refine blk_alloc ?_ _)); exact BK325.out) hb)
    have n2_ := Aside0.mk (blk_below (g := gb326) (o := .cells #[.int .i64 a1_0, .int .i64 a1_1] 23 (0, 0)) (by (with_reducible repeat (first | refine blk_drewN ?_ _ | refine blk_drew ?_ | refine blk_alloc ?_ _)); exact BK326.out) hb)
    have n3_ := Aside0.mk (blk_below (g := gb327) (o := .cells #[.int .i64 0, .int .i64 0] 23 (0, 0)) (by (with_reducible repeat (first | refine blk_drewN ?_ _ | refine blk_drew ?_ | refine blk_alloc ?_ _)); exact BK327.out) hb)
    have n4_ := Aside0.mk (below_step (by repeat (first | (with_reducible first | exact HB.out | apply below_alloc | apply pw_below_drewN | apply below_drew1 | refine below_set ?_ GE325.out | refine below_set ?_ GE326.out | refine below_set ?_ GE327.out) | exact HB.out)) hb)
    clear HO330
    clear BK325
    clear BK326
    clear BK327
    clear HB
    have HO330 := n0_
    have BK325 := n1_
    have BK326 := n2_
    have BK327 := n3_
    have HB := n4_
    clear n0_ n1_ n2_ n3_ n4_
    (try clear hb)
    (try clear hb2)
    (try clear hk)
    (try clear hi)
    refine hK.out _ _ ⟨(blk_cell BK325.out 0).trans rfl, (blk_cell BK325.out 1).trans rfl, (blk_cell BK326.out 0).trans rfl, (blk_cell BK326.out 1).trans rfl⟩ (fun hHeld => ?_)
    clear hK K
    refine norm_ (a' := ?_) ?_ ?_
    rotate_left
    · show Act.put _ (some 19) _ = _
      simp only [Act.put, List.setIfInBounds_toArray, List.set_cons_zero, List.set_cons_succ, i64_w, i32_w]
      rfl
    refine pure_ (i := 4) (N := some 20) (v := ?_) (a' := ?_) #[true, true, true, true, true, false] rfl rfl (by kernel_rfl) (fun _ _ _ h => h) (Or.inl ⟨by rfl, ?_⟩) ?_ ?_
    rotate_left
    · intro w'
      go_simp
      with_reducible rfl
    rotate_left
    · simp only [Act.put, List.setIfInBounds_toArray, List.set_cons_zero, List.set_cons_succ, i64_w, i32_w]
      rfl
    refine pure_ (i := 5) (N := some 7) (v := ?_) (a' := ?_) #[true, true, true, true, true, true] rfl rfl (by kernel_rfl) (fun _ _ _ h => h) (Or.inl ⟨by rfl, ?_⟩) ?_ ?_
    rotate_left
    · intro w'
      go_simp
      with_reducible rfl
    rotate_left
    · simp only [Act.put, List.setIfInBounds_toArray, List.set_cons_zero, List.set_cons_succ, i64_w, i32_w]
      rfl
    refine done_ (by kernel_rfl) ?_
    try go_wp2_with (first | ((with_reducible refine gate_callee (f := 26) rfl ?_); refine goesL_ (some 29) rfl rfl Tryd.func26 (by kernel_rfl) rfl #[.agg #[.int .u64 (IntKind.u64.wrap (ji7)), .int .i64 6], .bool (decide ((wrap64 (t332 + t333)) < 0))] rfl (by (try simp only [List.map_toArray, List.map_cons, List.map_nil]); first | done | (simp only [hji7]; rfl) | rfl | (simp only [List.length_drop, List.length_take]; rfl)) ?_; (with_reducible refine (deci_form_dec.calls k (IntKind.u64.wrap (ji7)) 6 (decide ((wrap64 (t332 + t333)) < 0)) t334 t335 t336 _ A8.out).mono ?_); rintro e w24 ⟨rfl, hb⟩; refine ⟨_, rfl, ?_⟩; have n0_ := Aside0.mk (Kd.R_below (by (with_reducible repeat (first | apply Kd.R_alloc | apply Kd.R_drewN | apply Kd.R_drew)); exact HO330.out) hb); have n1_ := Aside0.mk (blk_below (g := gb325) (o := .cells #[.int .i64 a0_0, .int .i64 a0_1] 23 (0, 0)) (by (with_reducible repeat (first | refine blk_drewN ?_ _ | refine blk_drew ?_ | refine blk_alloc ?_ _)); exact BK325.out) hb); have n2_ := Aside0.mk (blk_below (g := gb326) (o := .cells #[.int .i64 a1_0, .int .i64 a1_1] 23 (0, 0)) (by (with_reducible repeat (first | refine blk_drewN ?_ _ | refine blk_drew ?_ | refine blk_alloc ?_ _)); exact BK326.out) hb); have n3_ := Aside0.mk (blk_below (g := gb327) (o := .cells #[.int .i64 0, .int .i64 0] 23 (0, 0)) (by (with_reducible repeat (first | refine blk_drewN ?_ _ | refine blk_drew ?_ | refine blk_alloc ?_ _)); exact BK327.out) hb); have n4_ := Aside0.mk (below_step (by repeat (first | (with_reducible first | exact HB.out | apply below_alloc | apply pw_below_drewN | apply below_drew1 | refine below_set ?_ GE325.out | refine below_set ?_ GE326.out | refine below_set ?_ GE327.out) | exact HB.out)) hb); clear HO330; clear BK325; clear BK326; clear BK327; clear HB; have HO330 := n0_; have BK325 := n1_; have BK326 := n2_; have BK327 := n3_; have HB := n4_; clear n0_ n1_ n2_ n3_ n4_; (try clear hb); (try clear hb2); (try clear hk); (try clear hi); have hcz25_0 : w24.cell? ⟨gb327, 0, none⟩ = some (.int .i64 0) := (blk_cell BK327.out 0).trans rfl; have hcz25_1 : w24.cell? ⟨gb327, 1, none⟩ = some (.int .i64 0) := (blk_cell BK327.out 1).trans rfl; have hfz25_0 := blk_frozen BK327.out 0; have hfz25_1 := blk_frozen BK327.out 1))
    refine bodyPost_ret (results_ct rfl _ _ gb327 23 #[.int .i64 t334, .int .i64 t335] (0, 0) _ rfl (by (with_reducible repeat (first | refine blk_drewN ?_ _ | refine blk_drew ?_ | refine blk_alloc ?_ _)); refine blk_put (cs := #[.int .i64 t334, .int .i64 0]) ?_ 1 _ rfl; (with_reducible repeat (first | refine blk_drewN ?_ _ | refine blk_drew ?_ | refine blk_alloc ?_ _)); refine blk_put (cs := #[.int .i64 0, .int .i64 0]) ?_ 0 _ rfl; (with_reducible repeat (first | refine blk_drewN ?_ _ | refine blk_drew ?_ | refine blk_alloc ?_ _)); exact BK327.out) Tryd.underlying23 rfl (by kernel_rfl)) rfl ?_
    exact ⟨by first | rfl | (simp [errW_none, errW_some] <;> rfl) | (simp only [← hji7]; first | rfl | (simp [errW_none, errW_some] <;> rfl)) | (simp [*, errW_none, errW_some] <;> rfl), by repeat (first | (with_reducible first | exact HB.out | apply below_alloc | apply pw_below_drewN | apply below_drew1 | refine below_set ?_ GE325.out | refine below_set ?_ GE326.out | refine below_set ?_ GE327.out) | exact HB.out)⟩
  · rw [if_neg c4] at H
    have c4b0 : (t331 == 0) = false := beq_eq_false_iff_ne.mpr c4
    have c4b1 : (t331 != 0) = true := bne_iff_ne.mpr c4
    simp only [Option.some.injEq, Prod.mk.injEq] at H
    obtain ⟨rfl, rfl, rfl⟩ := H
    go_enter Tryd.func22, Tryd.ntmps22
    go_wp2_with (first | ((with_reducible refine gate_dst (N := 2) rfl ?_); refine box_event ?hg (N := 2) ?hd (cs := #[.int .i64 a0_0, .int .i64 a0_1]) (t := 23) ?hr ?_; (case hd => rfl); (case hg => rfl); (case hr => first | (go_simp; done) | (go_simp; rfl)); intro gb325 hg w26 hbox hb; have n0_ := Aside0.mk (below_step (by repeat (first | (with_reducible first | exact HB.out | apply below_alloc | apply pw_below_drewN | apply below_drew1) | exact HB.out)) hb); have n1_ := Aside0.mk (hbox); have n2_ := Aside0.mk ((by rw [hg]; exact (below_size (by repeat (first | (with_reducible first | exact HB.out | apply below_alloc | apply pw_below_drewN | apply below_drew1) | exact HB.out))) : w.heap.size ≤ gb325)); have n3_ := Aside0.mk ((by rw [hg]; exact (below_size (by repeat (first | (with_reducible first | exact HB.out | apply below_alloc | apply pw_below_drewN | apply below_drew1) | exact HB.out))) : w.heap.size ≤ gb325)); clear HB; have HB := n0_; have BK325 := n1_; have GW325 := n2_; have GE325 := n3_; clear n0_ n1_ n2_ n3_; clear hb hbox hg) | ((with_reducible refine gate_dst (N := 3) rfl ?_); refine box_event ?hg (N := 3) ?hd (cs := #[.int .i64 a1_0, .int .i64 a1_1]) (t := 23) ?hr ?_; (case hd => rfl); (case hg => rfl); (case hr => first | (go_simp; done) | (go_simp; rfl)); intro gb326 hg w27 hbox hb; have n0_ := Aside0.mk (blk_below (g := gb325) (o := .cells #[.int .i64 a0_0, .int .i64 a0_1] 23 (0, 0)) (by (with_reducible repeat (first | refine blk_drewN ?_ _ | refine blk_drew ?_ | refine blk_alloc ?_ _)); exact BK325.out) hb); have n1_ := Aside0.mk (below_step (by repeat (first | (with_reducible first | exact HB.out | apply below_alloc | apply pw_below_drewN | apply below_drew1 | refine below_set ?_ GE325.out) | exact HB.out)) hb); have n2_ := Aside0.mk (hbox); have n3_ := Aside0.mk ((by rw [hg]; exact (below_size (by repeat (first | (with_reducible first | exact HB.out | apply below_alloc | apply pw_below_drewN | apply below_drew1 | refine below_set ?_ GE325.out) | exact HB.out))) : w.heap.size ≤ gb326)); have n4_ := Aside0.mk ((by rw [hg]; exact (below_size (by repeat (first | (with_reducible first | exact HB.out | apply below_alloc | apply pw_below_drewN | apply below_drew1 | refine below_set ?_ GE325.out) | exact HB.out))) : w.heap.size ≤ gb326)); have n5_ := Aside0.mk ((by rw [hg]; exact Nat.ne_of_lt (blk_lt (g := gb325) (o := .cells #[.int .i64 a0_0, .int .i64 a0_1] 23 (0, 0)) (by (with_reducible repeat (first | refine blk_drewN ?_ _ | refine blk_drew ?_ | refine blk_alloc ?_ _)); exact BK325.out)) : gb325 ≠ gb326)); have n6_ := Aside0.mk ((by rw [hg]; exact Nat.ne_of_gt (blk_lt (g := gb325) (o := .cells #[.int .i64 a0_0, .int .i64 a0_1] 23 (0, 0)) (by (with_reducible repeat (first | refine blk_drewN ?_ _ | refine blk_drew ?_ | refine blk_alloc ?_ _)); exact BK325.out)) : gb326 ≠ gb325)); clear BK325; clear HB; have BK325 := n0_; have HB := n1_; have BK326 := n2_; have GW326 := n3_; have GE326 := n4_; have NB325_326 := n5_; have NB326_325 := n6_; clear n0_ n1_ n2_ n3_ n4_ n5_ n6_; clear hb hbox hg) | ((with_reducible refine gate_dst (N := 4) rfl ?_); refine box_event ?hg (N := 4) ?hd (cs := #[.int .i64 0, .int .i64 0]) (t := 23) ?hr ?_; (case hd => rfl); (case hg => rfl); (case hr => first | (go_simp; done) | (go_simp; rfl)); intro gb327 hg w28 hbox hb; have n0_ := Aside0.mk (blk_below (g := gb325) (o := .cells #[.int .i64 a0_0, .int .i64 a0_1] 23 (0, 0)) (by (with_reducible repeat (first | refine blk_drewN ?_ _ | refine blk_drew ?_ | refine blk_alloc ?_ _)); exact BK325.out) hb); have n1_ := Aside0.mk (blk_below (g := gb326) (o := .cells #[.int .i64 a1_0, .int .i64 a1_1] 23 (0, 0)) (by (with_reducible repeat (first | refine blk_drewN ?_ _ | refine blk_drew ?_ | refine blk_alloc ?_ _)); exact BK326.out) hb); have n2_ := Aside0.mk (below_step (by repeat (first | (with_reducible first | exact HB.out | apply below_alloc | apply pw_below_drewN | apply below_drew1 | refine below_set ?_ GE325.out | refine below_set ?_ GE326.out) | exact HB.out)) hb); have n3_ := Aside0.mk (hbox); have n4_ := Aside0.mk ((by rw [hg]; exact (below_size (by repeat (first | (with_reducible first | exact HB.out | apply below_alloc | apply pw_below_drewN | apply below_drew1 | refine below_set ?_ GE325.out | refine below_set ?_ GE326.out) | exact HB.out))) : w.heap.size ≤ gb327)); have n5_ := Aside0.mk ((by rw [hg]; exact (below_size (by repeat (first | (with_reducible first | exact HB.out | apply below_alloc | apply pw_below_drewN | apply below_drew1 | refine below_set ?_ GE325.out | refine below_set ?_ GE326.out) | exact HB.out))) : w.heap.size ≤ gb327)); have n6_ := Aside0.mk ((by rw [hg]; exact Nat.ne_of_lt (blk_lt (g := gb325) (o := .cells #[.int .i64 a0_0, .int .i64 a0_1] 23 (0, 0)) (by (with_reducible repeat (first | refine blk_drewN ?_ _ | refine blk_drew ?_ | refine blk_alloc ?_ _)); exact BK325.out)) : gb325 ≠ gb327)); have n7_ := Aside0.mk ((by rw [hg]; exact Nat.ne_of_gt (blk_lt (g := gb325) (o := .cells #[.int .i64 a0_0, .int .i64 a0_1] 23 (0, 0)) (by (with_reducible repeat (first | refine blk_drewN ?_ _ | refine blk_drew ?_ | refine blk_alloc ?_ _)); exact BK325.out)) : gb327 ≠ gb325)); have n8_ := Aside0.mk ((by rw [hg]; exact Nat.ne_of_lt (blk_lt (g := gb326) (o := .cells #[.int .i64 a1_0, .int .i64 a1_1] 23 (0, 0)) (by (with_reducible repeat (first | refine blk_drewN ?_ _ | refine blk_drew ?_ | refine blk_alloc ?_ _)); exact BK326.out)) : gb326 ≠ gb327)); have n9_ := Aside0.mk ((by rw [hg]; exact Nat.ne_of_gt (blk_lt (g := gb326) (o := .cells #[.int .i64 a1_0, .int .i64 a1_1] 23 (0, 0)) (by (with_reducible repeat (first | refine blk_drewN ?_ _ | refine blk_drew ?_ | refine blk_alloc ?_ _)); exact BK326.out)) : gb327 ≠ gb326)); clear BK325; clear BK326; clear HB; have BK325 := n0_; have BK326 := n1_; have HB := n2_; have BK327 := n3_; have GW327 := n4_; have GE327 := n5_; have NB325_327 := n6_; have NB327_325 := n7_; have NB326_327 := n8_; have NB327_326 := n9_; clear n0_ n1_ n2_ n3_ n4_ n5_ n6_ n7_ n8_ n9_; clear hb hbox hg; have hnb29 := NB325_326.out; have hnc29 := NB326_325.out; have hnb30 := NB325_327.out; have hnc30 := NB327_325.out; have hcz31_0 : w28.cell? ⟨gb325, 0, none⟩ = some (.int .i64 a0_0) := (blk_cell BK325.out 0).trans rfl; have hcz31_1 : w28.cell? ⟨gb325, 1, none⟩ = some (.int .i64 a0_1) := (blk_cell BK325.out 1).trans rfl; have hfz31_0 := blk_frozen BK325.out 0; have hfz31_1 := blk_frozen BK325.out 1; have hnb32 := NB326_327.out; have hnc32 := NB327_326.out; have hcz33_0 : w28.cell? ⟨gb326, 0, none⟩ = some (.int .i64 a1_0) := (blk_cell BK326.out 0).trans rfl; have hcz33_1 : w28.cell? ⟨gb326, 1, none⟩ = some (.int .i64 a1_1) := (blk_cell BK326.out 1).trans rfl; have hfz33_0 := blk_frozen BK326.out 0; have hfz33_1 := blk_frozen BK326.out 1) | ((with_reducible refine gate_dst (N := 10) rfl ?_); refine Kd.R_lit k23 _ 23 ?hg (N := 10) ?hd (xs := ([(⟨a0_0, a0_1⟩ : S23), (⟨a1_0, a1_1⟩ : S23)] : List (S23))) (inner := [.int .i64 a0_0, .int .i64 a0_1, .int .i64 a1_0, .int .i64 a1_1]) (ok := fun _ => True) (okp := fun _ => True) ?hr ?hp (fun _ hk => hk) trivial (Below.refl _ _) (Nat.le_refl _) (by simp) ?_; (case hd => rfl); (case hg => rfl); (case hr => first | (go_simp; done) | (go_simp; rfl)); (case hp => exact (Reps.c2 (show Kd.M k23 _ _ _ (⟨a0_0, a0_1⟩ : S23) [.int .i64 a0_0, .int .i64 a0_1] from (k23_mkM _ _ _ (⟨a0_0, a0_1⟩ : S23) )) (Reps.c2 (show Kd.M k23 _ _ _ (⟨a1_0, a1_1⟩ : S23) [.int .i64 a1_0, .int .i64 a1_1] from (k23_mkM _ _ _ (⟨a1_0, a1_1⟩ : S23) )) (Reps.none _ _)))); intro v329 w34 ho35 hb hg_ hnew_; clear hg_ hnew_; (first | rw [← Ny328.out] at ho35 | (simp only [Int.reduceToNat] at ho35; rw [← Ny328.out] at ho35)); have n0_ := Aside0.mk (Kd.R_lower (Kd.R_newB (Kd.R_newB (Kd.R_newB ho35 (g := gb325) (o := .cells #[.int .i64 a0_0, .int .i64 a0_1] 23 (0, 0)) (by (with_reducible repeat (first | refine blk_drewN ?_ _ | refine blk_drew ?_ | refine blk_alloc ?_ _)); exact BK325.out)) (g := gb326) (o := .cells #[.int .i64 a1_0, .int .i64 a1_1] 23 (0, 0)) (by (with_reducible repeat (first | refine blk_drewN ?_ _ | refine blk_drew ?_ | refine blk_alloc ?_ _)); exact BK326.out)) (g := gb327) (o := .cells #[.int .i64 0, .int .i64 0] 23 (0, 0)) (by (with_reducible repeat (first | refine blk_drewN ?_ _ | refine blk_drew ?_ | refine blk_alloc ?_ _)); exact BK327.out)) (below_size (by repeat (first | (with_reducible first | exact HB.out | apply below_alloc | apply pw_below_drewN | apply below_drew1 | refine below_set ?_ GE325.out | refine below_set ?_ GE326.out | refine below_set ?_ GE327.out) | exact HB.out)))); have n1_ := Aside0.mk (blk_below (g := gb325) (o := .cells #[.int .i64 a0_0, .int .i64 a0_1] 23 (0, 0)) (by (with_reducible repeat (first | refine blk_drewN ?_ _ | refine blk_drew ?_ | refine blk_alloc ?_ _)); exact BK325.out) hb); have n2_ := Aside0.mk (blk_below (g := gb326) (o := .cells #[.int .i64 a1_0, .int .i64 a1_1] 23 (0, 0)) (by (with_reducible repeat (first | refine blk_drewN ?_ _ | refine blk_drew ?_ | refine blk_alloc ?_ _)); exact BK326.out) hb); have n3_ := Aside0.mk (blk_below (g := gb327) (o := .cells #[.int .i64 0, .int .i64 0] 23 (0, 0)) (by (with_reducible repeat (first | refine blk_drewN ?_ _ | refine blk_drew ?_ | refine blk_alloc ?_ _)); exact BK327.out) hb); have n4_ := Aside0.mk (below_step (by repeat (first | (with_reducible first | exact HB.out | apply below_alloc | apply pw_below_drewN | apply below_drew1 | refine below_set ?_ GE325.out | refine below_set ?_ GE326.out | refine below_set ?_ GE327.out) | exact HB.out)) hb); clear BK325; clear BK326; clear BK327; clear HB; have HO330 := n0_; have BK325 := n1_; have BK326 := n2_; have BK327 := n3_; have HB := n4_; clear n0_ n1_ n2_ n3_ n4_; clear hb ho35; obtain ⟨Ao36, co36, eo36⟩ := Kd.R_slice HO330.out; subst eo36) | ((with_reducible refine gate_callee (f := 27) rfl ?_); refine goesL_ (some 11) rfl rfl Tryd.func27 (by kernel_rfl) rfl #[.slice Ao36 y328.length co36] rfl (by (try simp only [List.map_toArray, List.map_cons, List.map_nil]); first | done | rfl | (simp only [List.length_drop, List.length_take]; rfl)) ?_; (with_reducible refine (deci_all.calls k _ _ y328 t331 _ ?side1 ?side2 A3.out).mono ?_); (case side1 => repeat (first | exact (Kd.R_reads' HO330.out).2.2 | (with_reducible refine Kd.C_alloc ?_ _) | (with_reducible refine Kd.C_drewN ?_ _) | (with_reducible refine Kd.C_drew ?_))); (case side2 => exact (Kd.R_reads' HO330.out).2.1); rintro e w37 ⟨rfl, hb⟩; refine ⟨_, rfl, ?_⟩; have n0_ := Aside0.mk (Kd.R_below (by (with_reducible repeat (first | apply Kd.R_alloc | apply Kd.R_drewN | apply Kd.R_drew)); exact HO330.out) hb); have n1_ := Aside0.mk (blk_below (g := gb325) (o := .cells #[.int .i64 a0_0, .int .i64 a0_1] 23 (0, 0)) (by (with_reducible repeat (first | refine blk_drewN ?_ _ | refine blk_drew ?_ | refine blk_alloc ?_ _)); exact BK325.out) hb); have n2_ := Aside0.mk (blk_below (g := gb326) (o := .cells #[.int .i64 a1_0, .int .i64 a1_1] 23 (0, 0)) (by (with_reducible repeat (first | refine blk_drewN ?_ _ | refine blk_drew ?_ | refine blk_alloc ?_ _)); exact BK326.out) hb); have n3_ := Aside0.mk (blk_below (g := gb327) (o := .cells #[.int .i64 0, .int .i64 0] 23 (0, 0)) (by (with_reducible repeat (first | refine blk_drewN ?_ _ | refine blk_drew ?_ | refine blk_alloc ?_ _)); exact BK327.out) hb); have n4_ := Aside0.mk (below_step (by repeat (first | (with_reducible first | exact HB.out | apply below_alloc | apply pw_below_drewN | apply below_drew1 | refine below_set ?_ GE325.out | refine below_set ?_ GE326.out | refine below_set ?_ GE327.out) | exact HB.out)) hb); clear HO330; clear BK325; clear BK326; clear BK327; clear HB; have HO330 := n0_; have BK325 := n1_; have BK326 := n2_; have BK327 := n3_; have HB := n4_; clear n0_ n1_ n2_ n3_ n4_; (try clear hb); (try clear hb2); (try clear hk); (try clear hi); have hcz38_0 : w37.cell? ⟨gb327, 0, none⟩ = some (.int .i64 0) := (blk_cell BK327.out 0).trans rfl; have hcz38_1 : w37.cell? ⟨gb327, 1, none⟩ = some (.int .i64 0) := (blk_cell BK327.out 1).trans rfl; have hfz38_0 := blk_frozen BK327.out 0; have hfz38_1 := blk_frozen BK327.out 1))
    refine bodyPost_ret (results_ct rfl _ _ gb327 23 #[.int .i64 0, .int .i64 0] (0, 0) _ rfl (by (with_reducible repeat (first | refine blk_drewN ?_ _ | refine blk_drew ?_ | refine blk_alloc ?_ _)); refine blk_put (cs := #[.int .i64 0, .int .i64 0]) ?_ 1 _ rfl; (with_reducible repeat (first | refine blk_drewN ?_ _ | refine blk_drew ?_ | refine blk_alloc ?_ _)); refine blk_put (cs := #[.int .i64 0, .int .i64 0]) ?_ 0 _ rfl; (with_reducible repeat (first | refine blk_drewN ?_ _ | refine blk_drew ?_ | refine blk_alloc ?_ _)); exact BK327.out) Tryd.underlying23 rfl (by kernel_rfl)) rfl ?_
    exact ⟨by first | rfl | (simp [errW_none, errW_some] <;> rfl) | (simp [*, errW_none, errW_some] <;> rfl), by repeat (first | (with_reducible first | exact HB.out | apply below_alloc | apply pw_below_drewN | apply below_drew1 | refine below_set ?_ GE325.out | refine below_set ?_ GE326.out | refine below_set ?_ GE327.out) | exact HB.out)⟩
end Go.Proofs.YtgkemhgihbfmmaaDoor.PA
end
section
namespace Go.Proofs.YtgkemhgihbfmmaaDoor.PA
open Go.RowKit Go.Proofs.YtgkemhgihbfmmaaDoorW.PrintWords Go.Proofs.YtgkemhgihbfmmaaDoorW.PrintLast Go.Proofs.YtgkemhgihbfmmaaDoorW.PrintMore
attribute [local go_sem] max2_int min2_int max_two min_two max_three min_three max_four min_four
set_option linter.unusedVariables false
set_option linter.unusedSimpArgs false
def deci_Neg.f (k : Nat) (a0_0 : Int) (a0_1 : Int) : Option (Int × Int × Int) := (deci_all.f k (([(⟨a0_0, a0_1⟩ : S23)] : List (S23)))).bind fun t342 => (if t342 = 0 then (some (wrap64 (-a0_0), a0_1, 0)) else (some (0, 0, t342)))
theorem deci_Neg.mono : ∀ a0 a1 k, LeO (deci_Neg.f k a0 a1) (deci_Neg.f (k + 1) a0 a1) := by
  intro a0 a1 k
  unfold deci_Neg.f
  repeat' first
      | (with_reducible exact deci_all.mono _ _)
      | (with_reducible exact LeO.refl _)
      | (with_reducible exact LeO.none _)
      | (with_reducible refine LeO.ite ?_ ?_)
      | (with_reducible refine LeO.bind ?_ (fun _ => ?_))
      | exact deci_all.mono _ _
      | exact LeO.none _
      | refine LeO.ite ?_ ?_
      | refine LeO.bind ?_ (fun _ => ?_)
set_option maxHeartbeats 8000000 in
set_option maxRecDepth 100000 in
theorem deci_Neg.calls (k : Nat) (a0_0 : Int) (a0_1 : Int) (r1 : Int) (r2 : Int) (r3 : Int) (w : World) (h : deci_Neg.f k a0_0 a0_1 = some (r1, r2, r3)) :
    Calls Tryd.prog 23 #[.agg #[.int .i64 a0_0, .int .i64 a0_1]] w fun e w' => e = .returned (.tuple #[.agg #[.int .i64 r1, .int .i64 r2], .int .i64 r3]) ∧ Below w.heap.size w w' := by
  have hu23 := Tryd.underlying23
  have HB := Aside0.mk (Below.refl w.heap.size w)
  have H : ((deci_all.f k (([(⟨a0_0, a0_1⟩ : S23)] : List (S23)))).bind fun t342 => (if t342 = 0 then (some (wrap64 (-a0_0), a0_1, 0)) else (some (0, 0, t342)))) = some (r1, r2, r3) := h
  clear h
  obtain ⟨y339, hy339⟩ : ∃ y_ : List (S23), y_ = (([(⟨a0_0, a0_1⟩ : S23)] : List (S23))) := ⟨_, rfl⟩
  replace H : ((deci_all.f k y339).bind fun t342 => (if t342 = 0 then (some (wrap64 (-a0_0), a0_1, 0)) else (some (0, 0, t342)))) = some (r1, r2, r3) := by first | (rw [hy339]; with_reducible exact H) | (have H2_ := (Option.bind_some _ _).symm.trans H; rw [hy339]; with_reducible exact H2_) | (have H2_ := (Option.bind_some _ _).symm.trans H; with_reducible exact H2_) | with_reducible exact H | (rw [hy339]; exact H) | exact H
  have Ny339 := Aside0.mk hy339
  clear hy339
  replace H := Option.bind_eq_some_iff.mp H
  obtain ⟨t342, A20, H⟩ := H
  replace H : (if t342 = 0 then (some (wrap64 (-a0_0), a0_1, 0)) else (some (0, 0, t342))) = some (r1, r2, r3) := H
  have A2 := Aside0.mk A20
  clear A20
  by_cases c3 : t342 = 0
  · rw [if_pos c3] at H
    have c3b0 : (t342 == 0) = true := beq_iff_eq.mpr c3
    have c3b1 : (t342 != 0) = false := bne_eq_false_iff_eq.mpr c3
    clear c3
    simp only [Option.some.injEq, Prod.mk.injEq] at H
    obtain ⟨rfl, rfl, rfl⟩ := H
    go_enter Tryd.func23, Tryd.ntmps23
    go_wp2_with (first | ((with_reducible refine gate_dst (N := 1) rfl ?_); refine box_event ?hg (N := 1) ?hd (cs := #[.int .i64 a0_0, .int .i64 a0_1]) (t := 23) ?hr ?_; (case hd => rfl); (case hg => rfl); (case hr => first | (go_simp; done) | (go_simp; rfl)); intro gb337 hg w4 hbox hb; have n0_ := Aside0.mk (below_step (by repeat (first | (with_reducible first | exact HB.out | apply below_alloc | apply pw_below_drewN | apply below_drew1) | exact HB.out)) hb); have n1_ := Aside0.mk (hbox); have n2_ := Aside0.mk ((by rw [hg]; exact (below_size (by repeat (first | (with_reducible first | exact HB.out | apply below_alloc | apply pw_below_drewN | apply below_drew1) | exact HB.out))) : w.heap.size ≤ gb337)); have n3_ := Aside0.mk ((by rw [hg]; exact (below_size (by repeat (first | (with_reducible first | exact HB.out | apply below_alloc | apply pw_below_drewN | apply below_drew1) | exact HB.out))) : w.heap.size ≤ gb337)); clear HB; have HB := n0_; have BK337 := n1_; have GW337 := n2_; have GE337 := n3_; clear n0_ n1_ n2_ n3_; clear hb hbox hg) | ((with_reducible refine gate_dst (N := 2) rfl ?_); refine box_event ?hg (N := 2) ?hd (cs := #[.int .i64 0, .int .i64 0]) (t := 23) ?hr ?_; (case hd => rfl); (case hg => rfl); (case hr => first | (go_simp; done) | (go_simp; rfl)); intro gb338 hg w5 hbox hb; have n0_ := Aside0.mk (blk_below (g := gb337) (o := .cells #[.int .i64 a0_0, .int .i64 a0_1] 23 (0, 0)) (by (with_reducible repeat (first | refine blk_drewN ?_ _ | refine blk_drew ?_ | refine blk_alloc ?_ _)); exact BK337.out) hb); have n1_ := Aside0.mk (below_step (by repeat (first | (with_reducible first | exact HB.out | apply below_alloc | apply pw_below_drewN | apply below_drew1 | refine below_set ?_ GE337.out) | exact HB.out)) hb); have n2_ := Aside0.mk (hbox); have n3_ := Aside0.mk ((by rw [hg]; exact (below_size (by repeat (first | (with_reducible first | exact HB.out | apply below_alloc | apply pw_below_drewN | apply below_drew1 | refine below_set ?_ GE337.out) | exact HB.out))) : w.heap.size ≤ gb338)); have n4_ := Aside0.mk ((by rw [hg]; exact (below_size (by repeat (first | (with_reducible first | exact HB.out | apply below_alloc | apply pw_below_drewN | apply below_drew1 | refine below_set ?_ GE337.out) | exact HB.out))) : w.heap.size ≤ gb338)); have n5_ := Aside0.mk ((by rw [hg]; exact Nat.ne_of_lt (blk_lt (g := gb337) (o := .cells #[.int .i64 a0_0, .int .i64 a0_1] 23 (0, 0)) (by (with_reducible repeat (first | refine blk_drewN ?_ _ | refine blk_drew ?_ | refine blk_alloc ?_ _)); exact BK337.out)) : gb337 ≠ gb338)); have n6_ := Aside0.mk ((by rw [hg]; exact Nat.ne_of_gt (blk_lt (g := gb337) (o := .cells #[.int .i64 a0_0, .int .i64 a0_1] 23 (0, 0)) (by (with_reducible repeat (first | refine blk_drewN ?_ _ | refine blk_drew ?_ | refine blk_alloc ?_ _)); exact BK337.out)) : gb338 ≠ gb337)); clear BK337; clear HB; have BK337 := n0_; have HB := n1_; have BK338 := n2_; have GW338 := n3_; have GE338 := n4_; have NB337_338 := n5_; have NB338_337 := n6_; clear n0_ n1_ n2_ n3_ n4_ n5_ n6_; clear hb hbox hg; have hnb6 := NB337_338.out; have hnc6 := NB338_337.out; have hcz7_0 : w5.cell? ⟨gb337, 0, none⟩ = some (.int .i64 a0_0) := (blk_cell BK337.out 0).trans rfl; have hcz7_1 : w5.cell? ⟨gb337, 1, none⟩ = some (.int .i64 a0_1) := (blk_cell BK337.out 1).trans rfl; have hfz7_0 := blk_frozen BK337.out 0; have hfz7_1 := blk_frozen BK337.out 1) | ((with_reducible refine gate_dst (N := 6) rfl ?_); refine Kd.R_lit k23 _ 23 ?hg (N := 6) ?hd (xs := ([(⟨a0_0, a0_1⟩ : S23)] : List (S23))) (inner := [.int .i64 a0_0, .int .i64 a0_1]) (ok := fun _ => True) (okp := fun _ => True) ?hr ?hp (fun _ hk => hk) trivial (Below.refl _ _) (Nat.le_refl _) (by simp) ?_; (case hd => rfl); (case hg => rfl); (case hr => first | (go_simp; done) | (go_simp; rfl)); (case hp => exact (Reps.c2 (show Kd.M k23 _ _ _ (⟨a0_0, a0_1⟩ : S23) [.int .i64 a0_0, .int .i64 a0_1] from (k23_mkM _ _ _ (⟨a0_0, a0_1⟩ : S23) )) (Reps.none _ _))); intro v340 w8 ho9 hb hg_ hnew_; clear hg_ hnew_; (first | rw [← Ny339.out] at ho9 | (simp only [Int.reduceToNat] at ho9; rw [← Ny339.out] at ho9)); have n0_ := Aside0.mk (Kd.R_lower (Kd.R_newB (Kd.R_newB ho9 (g := gb337) (o := .cells #[.int .i64 a0_0, .int .i64 a0_1] 23 (0, 0)) (by (with_reducible repeat (first | refine blk_drewN ?_ _ | refine blk_drew ?_ | refine blk_alloc ?_ _)); exact BK337.out)) (g := gb338) (o := .cells #[.int .i64 0, .int .i64 0] 23 (0, 0)) (by (with_reducible repeat (first | refine blk_drewN ?_ _ | refine blk_drew ?_ | refine blk_alloc ?_ _)); exact BK338.out)) (below_size (by repeat (first | (with_reducible first | exact HB.out | apply below_alloc | apply pw_below_drewN | apply below_drew1 | refine below_set ?_ GE337.out | refine below_set ?_ GE338.out) | exact HB.out)))); have n1_ := Aside0.mk (blk_below (g := gb337) (o := .cells #[.int .i64 a0_0, .int .i64 a0_1] 23 (0, 0)) (by (with_reducible repeat (first | refine blk_drewN ?_ _ | refine blk_drew ?_ | refine blk_alloc ?_ _)); exact BK337.out) hb); have n2_ := Aside0.mk (blk_below (g := gb338) (o := .cells #[.int .i64 0, .int .i64 0] 23 (0, 0)) (by (with_reducible repeat (first | refine blk_drewN ?_ _ | refine blk_drew ?_ | refine blk_alloc ?_ _)); exact BK338.out) hb); have n3_ := Aside0.mk (below_step (by repeat (first | (with_reducible first | exact HB.out | apply below_alloc | apply pw_below_drewN | apply below_drew1 | refine below_set ?_ GE337.out | refine below_set ?_ GE338.out) | exact HB.out)) hb); clear BK337; clear BK338; clear HB; have HO341 := n0_; have BK337 := n1_; have BK338 := n2_; have HB := n3_; clear n0_ n1_ n2_ n3_; clear hb ho9; obtain ⟨Ao10, co10, eo10⟩ := Kd.R_slice HO341.out; subst eo10) | ((with_reducible refine gate_callee (f := 27) rfl ?_); refine goesL_ (some 7) rfl rfl Tryd.func27 (by kernel_rfl) rfl #[.slice Ao10 y339.length co10] rfl (by (try simp only [List.map_toArray, List.map_cons, List.map_nil]); first | done | rfl | (simp only [List.length_drop, List.length_take]; rfl)) ?_; (with_reducible refine (deci_all.calls k _ _ y339 t342 _ ?side1 ?side2 A2.out).mono ?_); (case side1 => repeat (first | exact (Kd.R_reads' HO341.out).2.2 | (with_reducible refine Kd.C_alloc ?_ _) | (with_reducible refine Kd.C_drewN ?_ _) | (with_reducible refine Kd.C_drew ?_))); (case side2 => exact (Kd.R_reads' HO341.out).2.1); rintro e w11 ⟨rfl, hb⟩; refine ⟨_, rfl, ?_⟩; have n0_ := Aside0.mk (Kd.R_below (by (with_reducible repeat (first | apply Kd.R_alloc | apply Kd.R_drewN | apply Kd.R_drew)); exact HO341.out) hb); have n1_ := Aside0.mk (blk_below (g := gb337) (o := .cells #[.int .i64 a0_0, .int .i64 a0_1] 23 (0, 0)) (by (with_reducible repeat (first | refine blk_drewN ?_ _ | refine blk_drew ?_ | refine blk_alloc ?_ _)); exact BK337.out) hb); have n2_ := Aside0.mk (blk_below (g := gb338) (o := .cells #[.int .i64 0, .int .i64 0] 23 (0, 0)) (by (with_reducible repeat (first | refine blk_drewN ?_ _ | refine blk_drew ?_ | refine blk_alloc ?_ _)); exact BK338.out) hb); have n3_ := Aside0.mk (below_step (by repeat (first | (with_reducible first | exact HB.out | apply below_alloc | apply pw_below_drewN | apply below_drew1 | refine below_set ?_ GE337.out | refine below_set ?_ GE338.out) | exact HB.out)) hb); clear HO341; clear BK337; clear BK338; clear HB; have HO341 := n0_; have BK337 := n1_; have BK338 := n2_; have HB := n3_; clear n0_ n1_ n2_ n3_; (try clear hb); (try clear hb2); (try clear hk); (try clear hi); have hcz12_0 : w11.cell? ⟨gb337, 0, none⟩ = some (.int .i64 a0_0) := (blk_cell BK337.out 0).trans rfl; have hcz12_1 : w11.cell? ⟨gb337, 1, none⟩ = some (.int .i64 a0_1) := (blk_cell BK337.out 1).trans rfl; have hfz12_0 := blk_frozen BK337.out 0; have hfz12_1 := blk_frozen BK337.out 1; have hcz13_0 : w11.cell? ⟨gb338, 0, none⟩ = some (.int .i64 0) := (blk_cell BK338.out 0).trans rfl; have hcz13_1 : w11.cell? ⟨gb338, 1, none⟩ = some (.int .i64 0) := (blk_cell BK338.out 1).trans rfl; have hfz13_0 := blk_frozen BK338.out 0; have hfz13_1 := blk_frozen BK338.out 1))
    refine bodyPost_ret (results_ct rfl _ _ gb338 23 #[.int .i64 (wrap64 (-a0_0)), .int .i64 a0_1] (0, 0) _ rfl (by (with_reducible repeat (first | refine blk_drewN ?_ _ | refine blk_drew ?_ | refine blk_alloc ?_ _)); refine blk_put (cs := #[.int .i64 (wrap64 (-a0_0)), .int .i64 0]) ?_ 1 _ rfl; (with_reducible repeat (first | refine blk_drewN ?_ _ | refine blk_drew ?_ | refine blk_alloc ?_ _)); refine blk_put (cs := #[.int .i64 0, .int .i64 0]) ?_ 0 _ rfl; (with_reducible repeat (first | refine blk_drewN ?_ _ | refine blk_drew ?_ | refine blk_alloc ?_ _)); refine blk_far ?_ NB338_337.out _; (with_reducible repeat (first | refine blk_drewN ?_ _ | refine blk_drew ?_ | refine blk_alloc ?_ _)); exact BK338.out) Tryd.underlying23 rfl (by kernel_rfl)) rfl ?_
    exact ⟨by first | rfl | (simp [errW_none, errW_some] <;> rfl) | (simp [*, errW_none, errW_some] <;> rfl), by repeat (first | (with_reducible first | exact HB.out | apply below_alloc | apply pw_below_drewN | apply below_drew1 | refine below_set ?_ GE337.out | refine below_set ?_ GE338.out) | exact HB.out)⟩
  · rw [if_neg c3] at H
    have c3b0 : (t342 == 0) = false := beq_eq_false_iff_ne.mpr c3
    have c3b1 : (t342 != 0) = true := bne_iff_ne.mpr c3
    simp only [Option.some.injEq, Prod.mk.injEq] at H
    obtain ⟨rfl, rfl, rfl⟩ := H
    go_enter Tryd.func23, Tryd.ntmps23
    go_wp2_with (first | ((with_reducible refine gate_dst (N := 1) rfl ?_); refine box_event ?hg (N := 1) ?hd (cs := #[.int .i64 a0_0, .int .i64 a0_1]) (t := 23) ?hr ?_; (case hd => rfl); (case hg => rfl); (case hr => first | (go_simp; done) | (go_simp; rfl)); intro gb337 hg w14 hbox hb; have n0_ := Aside0.mk (below_step (by repeat (first | (with_reducible first | exact HB.out | apply below_alloc | apply pw_below_drewN | apply below_drew1) | exact HB.out)) hb); have n1_ := Aside0.mk (hbox); have n2_ := Aside0.mk ((by rw [hg]; exact (below_size (by repeat (first | (with_reducible first | exact HB.out | apply below_alloc | apply pw_below_drewN | apply below_drew1) | exact HB.out))) : w.heap.size ≤ gb337)); have n3_ := Aside0.mk ((by rw [hg]; exact (below_size (by repeat (first | (with_reducible first | exact HB.out | apply below_alloc | apply pw_below_drewN | apply below_drew1) | exact HB.out))) : w.heap.size ≤ gb337)); clear HB; have HB := n0_; have BK337 := n1_; have GW337 := n2_; have GE337 := n3_; clear n0_ n1_ n2_ n3_; clear hb hbox hg) | ((with_reducible refine gate_dst (N := 2) rfl ?_); refine box_event ?hg (N := 2) ?hd (cs := #[.int .i64 0, .int .i64 0]) (t := 23) ?hr ?_; (case hd => rfl); (case hg => rfl); (case hr => first | (go_simp; done) | (go_simp; rfl)); intro gb338 hg w15 hbox hb; have n0_ := Aside0.mk (blk_below (g := gb337) (o := .cells #[.int .i64 a0_0, .int .i64 a0_1] 23 (0, 0)) (by (with_reducible repeat (first | refine blk_drewN ?_ _ | refine blk_drew ?_ | refine blk_alloc ?_ _)); exact BK337.out) hb); have n1_ := Aside0.mk (below_step (by repeat (first | (with_reducible first | exact HB.out | apply below_alloc | apply pw_below_drewN | apply below_drew1 | refine below_set ?_ GE337.out) | exact HB.out)) hb); have n2_ := Aside0.mk (hbox); have n3_ := Aside0.mk ((by rw [hg]; exact (below_size (by repeat (first | (with_reducible first | exact HB.out | apply below_alloc | apply pw_below_drewN | apply below_drew1 | refine below_set ?_ GE337.out) | exact HB.out))) : w.heap.size ≤ gb338)); have n4_ := Aside0.mk ((by rw [hg]; exact (below_size (by repeat (first | (with_reducible first | exact HB.out | apply below_alloc | apply pw_below_drewN | apply below_drew1 | refine below_set ?_ GE337.out) | exact HB.out))) : w.heap.size ≤ gb338)); have n5_ := Aside0.mk ((by rw [hg]; exact Nat.ne_of_lt (blk_lt (g := gb337) (o := .cells #[.int .i64 a0_0, .int .i64 a0_1] 23 (0, 0)) (by (with_reducible repeat (first | refine blk_drewN ?_ _ | refine blk_drew ?_ | refine blk_alloc ?_ _)); exact BK337.out)) : gb337 ≠ gb338)); have n6_ := Aside0.mk ((by rw [hg]; exact Nat.ne_of_gt (blk_lt (g := gb337) (o := .cells #[.int .i64 a0_0, .int .i64 a0_1] 23 (0, 0)) (by (with_reducible repeat (first | refine blk_drewN ?_ _ | refine blk_drew ?_ | refine blk_alloc ?_ _)); exact BK337.out)) : gb338 ≠ gb337)); clear BK337; clear HB; have BK337 := n0_; have HB := n1_; have BK338 := n2_; have GW338 := n3_; have GE338 := n4_; have NB337_338 := n5_; have NB338_337 := n6_; clear n0_ n1_ n2_ n3_ n4_ n5_ n6_; clear hb hbox hg; have hnb16 := NB337_338.out; have hnc16 := NB338_337.out; have hcz17_0 : w15.cell? ⟨gb337, 0, none⟩ = some (.int .i64 a0_0) := (blk_cell BK337.out 0).trans rfl; have hcz17_1 : w15.cell? ⟨gb337, 1, none⟩ = some (.int .i64 a0_1) := (blk_cell BK337.out 1).trans rfl; have hfz17_0 := blk_frozen BK337.out 0; have hfz17_1 := blk_frozen BK337.out 1) | ((with_reducible refine gate_dst (N := 6) rfl ?_); refine Kd.R_lit k23 _ 23 ?hg (N := 6) ?hd (xs := ([(⟨a0_0, a0_1⟩ : S23)] : List (S23))) (inner := [.int .i64 a0_0, .int .i64 a0_1]) (ok := fun _ => True) (okp := fun _ => True) ?hr ?hp (fun _ hk => hk) trivial (Below.refl _ _) (Nat.le_refl _) (by simp) ?_; (case hd => rfl); (case hg => rfl); (case hr => first | (go_simp; done) | (go_simp; rfl)); (case hp => exact (Reps.c2 (show Kd.M k23 _ _ _ (⟨a0_0, a0_1⟩ : S23) [.int .i64 a0_0, .int .i64 a0_1] from (k23_mkM _ _ _ (⟨a0_0, a0_1⟩ : S23) )) (Reps.none _ _))); intro v340 w18 ho19 hb hg_ hnew_; clear hg_ hnew_; (first | rw [← Ny339.out] at ho19 | (simp only [Int.reduceToNat] at ho19; rw [← Ny339.out] at ho19)); have n0_ := Aside0.mk (Kd.R_lower (Kd.R_newB (Kd.R_newB ho19 (g := gb337) (o := .cells #[.int .i64 a0_0, .int .i64 a0_1] 23 (0, 0)) (by (with_reducible repeat (first | refine blk_drewN ?_ _ | refine blk_drew ?_ | refine blk_alloc ?_ _)); exact BK337.out)) (g := gb338) (o := .cells #[.int .i64 0, .int .i64 0] 23 (0, 0)) (by (with_reducible repeat (first | refine blk_drewN ?_ _ | refine blk_drew ?_ | refine blk_alloc ?_ _)); exact BK338.out)) (below_size (by repeat (first | (with_reducible first | exact HB.out | apply below_alloc | apply pw_below_drewN | apply below_drew1 | refine below_set ?_ GE337.out | refine below_set ?_ GE338.out) | exact HB.out)))); have n1_ := Aside0.mk (blk_below (g := gb337) (o := .cells #[.int .i64 a0_0, .int .i64 a0_1] 23 (0, 0)) (by (with_reducible repeat (first | refine blk_drewN ?_ _ | refine blk_drew ?_ | refine blk_alloc ?_ _)); exact BK337.out) hb); have n2_ := Aside0.mk (blk_below (g := gb338) (o := .cells #[.int .i64 0, .int .i64 0] 23 (0, 0)) (by (with_reducible repeat (first | refine blk_drewN ?_ _ | refine blk_drew ?_ | refine blk_alloc ?_ _)); exact BK338.out) hb); have n3_ := Aside0.mk (below_step (by repeat (first | (with_reducible first | exact HB.out | apply below_alloc | apply pw_below_drewN | apply below_drew1 | refine below_set ?_ GE337.out | refine below_set ?_ GE338.out) | exact HB.out)) hb); clear BK337; clear BK338; clear HB; have HO341 := n0_; have BK337 := n1_; have BK338 := n2_; have HB := n3_; clear n0_ n1_ n2_ n3_; clear hb ho19; obtain ⟨Ao20, co20, eo20⟩ := Kd.R_slice HO341.out; subst eo20) | ((with_reducible refine gate_callee (f := 27) rfl ?_); refine goesL_ (some 7) rfl rfl Tryd.func27 (by kernel_rfl) rfl #[.slice Ao20 y339.length co20] rfl (by (try simp only [List.map_toArray, List.map_cons, List.map_nil]); first | done | rfl | (simp only [List.length_drop, List.length_take]; rfl)) ?_; (with_reducible refine (deci_all.calls k _ _ y339 t342 _ ?side1 ?side2 A2.out).mono ?_); (case side1 => repeat (first | exact (Kd.R_reads' HO341.out).2.2 | (with_reducible refine Kd.C_alloc ?_ _) | (with_reducible refine Kd.C_drewN ?_ _) | (with_reducible refine Kd.C_drew ?_))); (case side2 => exact (Kd.R_reads' HO341.out).2.1); rintro e w21 ⟨rfl, hb⟩; refine ⟨_, rfl, ?_⟩; have n0_ := Aside0.mk (Kd.R_below (by (with_reducible repeat (first | apply Kd.R_alloc | apply Kd.R_drewN | apply Kd.R_drew)); exact HO341.out) hb); have n1_ := Aside0.mk (blk_below (g := gb337) (o := .cells #[.int .i64 a0_0, .int .i64 a0_1] 23 (0, 0)) (by (with_reducible repeat (first | refine blk_drewN ?_ _ | refine blk_drew ?_ | refine blk_alloc ?_ _)); exact BK337.out) hb); have n2_ := Aside0.mk (blk_below (g := gb338) (o := .cells #[.int .i64 0, .int .i64 0] 23 (0, 0)) (by (with_reducible repeat (first | refine blk_drewN ?_ _ | refine blk_drew ?_ | refine blk_alloc ?_ _)); exact BK338.out) hb); have n3_ := Aside0.mk (below_step (by repeat (first | (with_reducible first | exact HB.out | apply below_alloc | apply pw_below_drewN | apply below_drew1 | refine below_set ?_ GE337.out | refine below_set ?_ GE338.out) | exact HB.out)) hb); clear HO341; clear BK337; clear BK338; clear HB; have HO341 := n0_; have BK337 := n1_; have BK338 := n2_; have HB := n3_; clear n0_ n1_ n2_ n3_; (try clear hb); (try clear hb2); (try clear hk); (try clear hi); have hcz22_0 : w21.cell? ⟨gb338, 0, none⟩ = some (.int .i64 0) := (blk_cell BK338.out 0).trans rfl; have hcz22_1 : w21.cell? ⟨gb338, 1, none⟩ = some (.int .i64 0) := (blk_cell BK338.out 1).trans rfl; have hfz22_0 := blk_frozen BK338.out 0; have hfz22_1 := blk_frozen BK338.out 1))
    refine bodyPost_ret (results_ct rfl _ _ gb338 23 #[.int .i64 0, .int .i64 0] (0, 0) _ rfl (by (with_reducible repeat (first | refine blk_drewN ?_ _ | refine blk_drew ?_ | refine blk_alloc ?_ _)); refine blk_put (cs := #[.int .i64 0, .int .i64 0]) ?_ 1 _ rfl; (with_reducible repeat (first | refine blk_drewN ?_ _ | refine blk_drew ?_ | refine blk_alloc ?_ _)); refine blk_put (cs := #[.int .i64 0, .int .i64 0]) ?_ 0 _ rfl; (with_reducible repeat (first | refine blk_drewN ?_ _ | refine blk_drew ?_ | refine blk_alloc ?_ _)); exact BK338.out) Tryd.underlying23 rfl (by kernel_rfl)) rfl ?_
    exact ⟨by first | rfl | (simp [errW_none, errW_some] <;> rfl) | (simp [*, errW_none, errW_some] <;> rfl), by repeat (first | (with_reducible first | exact HB.out | apply below_alloc | apply pw_below_drewN | apply below_drew1 | refine below_set ?_ GE337.out | refine below_set ?_ GE338.out) | exact HB.out)⟩
end Go.Proofs.YtgkemhgihbfmmaaDoor.PA
end
