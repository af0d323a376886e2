/- Part 16 of the proof for Makes: functions of the program as plain Lean functions, their calls, and what they come to. -/
import Derived.RowKit
import Derived.Test.YtgkemhgihbfmmaaDoorMakesK14
import Derived.Test.YtgkemhgihbfmmaaDoorMakesK2
section
namespace Go.Proofs.YtgkemhgihbfmmaaDoor.PA
open Go.RowKit Go.Proofs.YtgkemhgihbfmmaaDoorW.PrintWords Go.Proofs.YtgkemhgihbfmmaaDoorW.PrintLast Go.Proofs.YtgkemhgihbfmmaaDoorW.PrintMore
attribute [local go_sem] max2_int min2_int max_two min_two max_three min_three max_four min_four
set_option linter.unusedVariables false
set_option linter.unusedSimpArgs false
def deci_Text.j0 : Nat → ByteArray → Int → Int → Option (ByteArray × Int)
  | 0, _, _, _ => none
  | k + 1, x5, x143000, x143001 => if x143000 < 0 then (if 1 + x5.size ≤ 9223372036854775807 then (some ((⟨#[45]⟩ : ByteArray) ++ x5, 0)) else (none)) else (some (x5, 0))
def deci_Text.f (k : Nat) (a0_0 : Int) (a0_1 : Int) : Option (ByteArray × Int) := (deci_all.f k (([(⟨a0_0, a0_1⟩ : S23)] : List (S23)))).bind fun t146 => (if t146 = 0 then ((deci_size.f a0_0 a0_1).bind fun t147 => ((strconv_FormatUint.f t147 10).bind fun t148 => (if a0_1 > 0 then ((strings_Repeat.f (⟨#[48]⟩ : ByteArray) (mx 0 (wrap64 ((wrap64 (a0_1 + 1)) - (t148.size : Int))))).bind fun t149 => (if t149.size + t148.size ≤ 9223372036854775807 then (if 0 ≤ (wrap64 (((t149 ++ t148).size : Int) - a0_1)) then (if (wrap64 (((t149 ++ t148).size : Int) - a0_1)) ≤ ((t149 ++ t148).size : Int) then (if ((t149 ++ t148).extract 0 ((wrap64 (((t149 ++ t148).size : Int) - a0_1)) : Int).toNat).size + 1 ≤ 9223372036854775807 then (if (((t149 ++ t148).extract 0 ((wrap64 (((t149 ++ t148).size : Int) - a0_1)) : Int).toNat) ++ (⟨#[46]⟩ : ByteArray)).size + ((t149 ++ t148).extract ((wrap64 (((t149 ++ t148).size : Int) - a0_1)) : Int).toNat (t149 ++ t148).size).size ≤ 9223372036854775807 then (deci_Text.j0 k ((((t149 ++ t148).extract 0 ((wrap64 (((t149 ++ t148).size : Int) - a0_1)) : Int).toNat) ++ (⟨#[46]⟩ : ByteArray)) ++ ((t149 ++ t148).extract ((wrap64 (((t149 ++ t148).size : Int) - a0_1)) : Int).toNat (t149 ++ t148).size)) a0_0 a0_1) else (none)) else (none)) else (none)) else (none)) else (none))) else (deci_Text.j0 k t148 a0_0 a0_1)))) else (some ((⟨#[]⟩ : ByteArray), t146)))
theorem deci_Text.mono_l : ∀ k, (∀ y0 y1 y2, LeO (deci_Text.j0 k y0 y1 y2) (deci_Text.j0 (k + 1) y0 y1 y2))
  | 0 => fun _ _ _ r h => by simp [deci_Text.j0] at h
  | k + 1 => by
    have ih0 := deci_Text.mono_l k
    · intro y0 y1 y2
      unfold deci_Text.j0
      repeat' first
      | (with_reducible exact ih0 _ _ _)
      | (with_reducible exact deci_all.mono _ _)
      | (with_reducible exact LeO.refl _)
      | (with_reducible exact LeO.none _)
      | (with_reducible refine LeO.ite ?_ ?_)
      | (with_reducible refine LeO.bind ?_ (fun _ => ?_))
      | exact ih0 _ _ _
      | exact deci_all.mono _ _
      | exact LeO.none _
      | refine LeO.ite ?_ ?_
      | refine LeO.bind ?_ (fun _ => ?_)
theorem deci_Text.mono : ∀ a0 a1 k, LeO (deci_Text.f k a0 a1) (deci_Text.f (k + 1) a0 a1) := by
  intro a0 a1 k
  have ih0 := deci_Text.mono_l k
  unfold deci_Text.f
  repeat' first
      | (with_reducible exact ih0 _ _ _)
      | (with_reducible exact deci_all.mono _ _)
      | (with_reducible exact LeO.refl _)
      | (with_reducible exact LeO.none _)
      | (with_reducible refine LeO.ite ?_ ?_)
      | (with_reducible refine LeO.bind ?_ (fun _ => ?_))
      | exact ih0 _ _ _
      | exact deci_all.mono _ _
      | exact LeO.none _
      | refine LeO.ite ?_ ?_
      | refine LeO.bind ?_ (fun _ => ?_)
set_option maxHeartbeats 8000000 in
set_option maxRecDepth 100000 in
theorem deci_Text.calls (k : Nat) (a0_0 : Int) (a0_1 : Int) (r1 : ByteArray) (r2 : Int) (w : World) (hT : Tabs w) (h : deci_Text.f k a0_0 a0_1 = some (r1, r2)) :
    Calls Tryd.prog 16 #[.agg #[.int .i64 a0_0, .int .i64 a0_1]] w fun e w' => e = .returned (.tuple #[.string r1, .int .i64 r2]) ∧ Below w.heap.size w w' := by
  have hu23 := Tryd.underlying23
  have HT := Aside0.mk hT
  clear hT
  have HB := Aside0.mk (Below.refl w.heap.size w)
  have H : ((deci_all.f k (([(⟨a0_0, a0_1⟩ : S23)] : List (S23)))).bind fun t146 => (if t146 = 0 then ((deci_size.f a0_0 a0_1).bind fun t147 => ((strconv_FormatUint.f t147 10).bind fun t148 => (if a0_1 > 0 then ((strings_Repeat.f (⟨#[48]⟩ : ByteArray) (mx 0 (wrap64 ((wrap64 (a0_1 + 1)) - (t148.size : Int))))).bind fun t149 => (if t149.size + t148.size ≤ 9223372036854775807 then (if 0 ≤ (wrap64 (((t149 ++ t148).size : Int) - a0_1)) then (if (wrap64 (((t149 ++ t148).size : Int) - a0_1)) ≤ ((t149 ++ t148).size : Int) then (if ((t149 ++ t148).extract 0 ((wrap64 (((t149 ++ t148).size : Int) - a0_1)) : Int).toNat).size + 1 ≤ 9223372036854775807 then (if (((t149 ++ t148).extract 0 ((wrap64 (((t149 ++ t148).size : Int) - a0_1)) : Int).toNat) ++ (⟨#[46]⟩ : ByteArray)).size + ((t149 ++ t148).extract ((wrap64 (((t149 ++ t148).size : Int) - a0_1)) : Int).toNat (t149 ++ t148).size).size ≤ 9223372036854775807 then (deci_Text.j0 k ((((t149 ++ t148).extract 0 ((wrap64 (((t149 ++ t148).size : Int) - a0_1)) : Int).toNat) ++ (⟨#[46]⟩ : ByteArray)) ++ ((t149 ++ t148).extract ((wrap64 (((t149 ++ t148).size : Int) - a0_1)) : Int).toNat (t149 ++ t148).size)) a0_0 a0_1) else (none)) else (none)) else (none)) else (none)) else (none))) else (deci_Text.j0 k t148 a0_0 a0_1)))) else (some ((⟨#[]⟩ : ByteArray), t146)))) = some (r1, r2) := h
  clear h
  obtain ⟨y143, hy143⟩ : ∃ y_ : List (S23), y_ = (([(⟨a0_0, a0_1⟩ : S23)] : List (S23))) := ⟨_, rfl⟩
  replace H : ((deci_all.f k y143).bind fun t146 => (if t146 = 0 then ((deci_size.f a0_0 a0_1).bind fun t147 => ((strconv_FormatUint.f t147 10).bind fun t148 => (if a0_1 > 0 then ((strings_Repeat.f (⟨#[48]⟩ : ByteArray) (mx 0 (wrap64 ((wrap64 (a0_1 + 1)) - (t148.size : Int))))).bind fun t149 => (if t149.size + t148.size ≤ 9223372036854775807 then (if 0 ≤ (wrap64 (((t149 ++ t148).size : Int) - a0_1)) then (if (wrap64 (((t149 ++ t148).size : Int) - a0_1)) ≤ ((t149 ++ t148).size : Int) then (if ((t149 ++ t148).extract 0 ((wrap64 (((t149 ++ t148).size : Int) - a0_1)) : Int).toNat).size + 1 ≤ 9223372036854775807 then (if (((t149 ++ t148).extract 0 ((wrap64 (((t149 ++ t148).size : Int) - a0_1)) : Int).toNat) ++ (⟨#[46]⟩ : ByteArray)).size + ((t149 ++ t148).extract ((wrap64 (((t149 ++ t148).size : Int) - a0_1)) : Int).toNat (t149 ++ t148).size).size ≤ 9223372036854775807 then (deci_Text.j0 k ((((t149 ++ t148).extract 0 ((wrap64 (((t149 ++ t148).size : Int) - a0_1)) : Int).toNat) ++ (⟨#[46]⟩ : ByteArray)) ++ ((t149 ++ t148).extract ((wrap64 (((t149 ++ t148).size : Int) - a0_1)) : Int).toNat (t149 ++ t148).size)) a0_0 a0_1) else (none)) else (none)) else (none)) else (none)) else (none))) else (deci_Text.j0 k t148 a0_0 a0_1)))) else (some ((⟨#[]⟩ : ByteArray), t146)))) = some (r1, r2) := by first | (rw [hy143]; with_reducible exact H) | (have H2_ := (Option.bind_some _ _).symm.trans H; rw [hy143]; with_reducible exact H2_) | (have H2_ := (Option.bind_some _ _).symm.trans H; with_reducible exact H2_) | with_reducible exact H | (rw [hy143]; exact H) | exact H
  have Ny143 := Aside0.mk hy143
  clear hy143
  replace H := Option.bind_eq_some_iff.mp H
  obtain ⟨t146, A20, H⟩ := H
  replace H : (if t146 = 0 then ((deci_size.f a0_0 a0_1).bind fun t147 => ((strconv_FormatUint.f t147 10).bind fun t148 => (if a0_1 > 0 then ((strings_Repeat.f (⟨#[48]⟩ : ByteArray) (mx 0 (wrap64 ((wrap64 (a0_1 + 1)) - (t148.size : Int))))).bind fun t149 => (if t149.size + t148.size ≤ 9223372036854775807 then (if 0 ≤ (wrap64 (((t149 ++ t148).size : Int) - a0_1)) then (if (wrap64 (((t149 ++ t148).size : Int) - a0_1)) ≤ ((t149 ++ t148).size : Int) then (if ((t149 ++ t148).extract 0 ((wrap64 (((t149 ++ t148).size : Int) - a0_1)) : Int).toNat).size + 1 ≤ 9223372036854775807 then (if (((t149 ++ t148).extract 0 ((wrap64 (((t149 ++ t148).size : Int) - a0_1)) : Int).toNat) ++ (⟨#[46]⟩ : ByteArray)).size + ((t149 ++ t148).extract ((wrap64 (((t149 ++ t148).size : Int) - a0_1)) : Int).toNat (t149 ++ t148).size).size ≤ 9223372036854775807 then (deci_Text.j0 k ((((t149 ++ t148).extract 0 ((wrap64 (((t149 ++ t148).size : Int) - a0_1)) : Int).toNat) ++ (⟨#[46]⟩ : ByteArray)) ++ ((t149 ++ t148).extract ((wrap64 (((t149 ++ t148).size : Int) - a0_1)) : Int).toNat (t149 ++ t148).size)) a0_0 a0_1) else (none)) else (none)) else (none)) else (none)) else (none))) else (deci_Text.j0 k t148 a0_0 a0_1)))) else (some ((⟨#[]⟩ : ByteArray), t146))) = some (r1, r2) := H
  have A2 := Aside0.mk A20
  clear A20
  by_cases c3 : t146 = 0
  · rw [if_pos c3] at H
    have c3b0 : (t146 == 0) = true := beq_iff_eq.mpr c3
    have c3b1 : (t146 != 0) = false := bne_eq_false_iff_eq.mpr c3
    clear c3
    replace H := Option.bind_eq_some_iff.mp H
    obtain ⟨t147, A40, H⟩ := H
    replace H : ((strconv_FormatUint.f t147 10).bind fun t148 => (if a0_1 > 0 then ((strings_Repeat.f (⟨#[48]⟩ : ByteArray) (mx 0 (wrap64 ((wrap64 (a0_1 + 1)) - (t148.size : Int))))).bind fun t149 => (if t149.size + t148.size ≤ 9223372036854775807 then (if 0 ≤ (wrap64 (((t149 ++ t148).size : Int) - a0_1)) then (if (wrap64 (((t149 ++ t148).size : Int) - a0_1)) ≤ ((t149 ++ t148).size : Int) then (if ((t149 ++ t148).extract 0 ((wrap64 (((t149 ++ t148).size : Int) - a0_1)) : Int).toNat).size + 1 ≤ 9223372036854775807 then (if (((t149 ++ t148).extract 0 ((wrap64 (((t149 ++ t148).size : Int) - a0_1)) : Int).toNat) ++ (⟨#[46]⟩ : ByteArray)).size + ((t149 ++ t148).extract ((wrap64 (((t149 ++ t148).size : Int) - a0_1)) : Int).toNat (t149 ++ t148).size).size ≤ 9223372036854775807 then (deci_Text.j0 k ((((t149 ++ t148).extract 0 ((wrap64 (((t149 ++ t148).size : Int) - a0_1)) : Int).toNat) ++ (⟨#[46]⟩ : ByteArray)) ++ ((t149 ++ t148).extract ((wrap64 (((t149 ++ t148).size : Int) - a0_1)) : Int).toNat (t149 ++ t148).size)) a0_0 a0_1) else (none)) else (none)) else (none)) else (none)) else (none))) else (deci_Text.j0 k t148 a0_0 a0_1))) = some (r1, r2) := H
    have A4 := Aside0.mk A40
    clear A40
    replace H := Option.bind_eq_some_iff.mp H
    obtain ⟨t148, A50, H⟩ := H
    replace H : (if a0_1 > 0 then ((strings_Repeat.f (⟨#[48]⟩ : ByteArray) (mx 0 (wrap64 ((wrap64 (a0_1 + 1)) - (t148.size : Int))))).bind fun t149 => (if t149.size + t148.size ≤ 9223372036854775807 then (if 0 ≤ (wrap64 (((t149 ++ t148).size : Int) - a0_1)) then (if (wrap64 (((t149 ++ t148).size : Int) - a0_1)) ≤ ((t149 ++ t148).size : Int) then (if ((t149 ++ t148).extract 0 ((wrap64 (((t149 ++ t148).size : Int) - a0_1)) : Int).toNat).size + 1 ≤ 9223372036854775807 then (if (((t149 ++ t148).extract 0 ((wrap64 (((t149 ++ t148).size : Int) - a0_1)) : Int).toNat) ++ (⟨#[46]⟩ : ByteArray)).size + ((t149 ++ t148).extract ((wrap64 (((t149 ++ t148).size : Int) - a0_1)) : Int).toNat (t149 ++ t148).size).size ≤ 9223372036854775807 then (deci_Text.j0 k ((((t149 ++ t148).extract 0 ((wrap64 (((t149 ++ t148).size : Int) - a0_1)) : Int).toNat) ++ (⟨#[46]⟩ : ByteArray)) ++ ((t149 ++ t148).extract ((wrap64 (((t149 ++ t148).size : Int) - a0_1)) : Int).toNat (t149 ++ t148).size)) a0_0 a0_1) else (none)) else (none)) else (none)) else (none)) else (none))) else (deci_Text.j0 k t148 a0_0 a0_1)) = some (r1, r2) := H
    have A5 := Aside0.mk A50
    clear A50
    have HC6 := Aside0.mk H
    clear H
    go_enter Tryd.func16, Tryd.ntmps16
    go_upto_if 17 with (first | ((with_reducible refine gate_dst (N := 1) rfl ?_); refine box_event ?hg (N := 1) ?hd (cs := #[.int .i64 a0_0, .int .i64 a0_1]) (t := 23) ?hr ?_; (case hd => rfl); (case hg => rfl); (case hr => first | (go_simp; done) | (go_simp; rfl)); intro gb142 hg w7 hbox hb; have n0_ := Aside0.mk (below_step (by repeat (first | (with_reducible first | exact HB.out | apply below_alloc | apply pw_below_drewN | apply below_drew1) | exact HB.out)) hb); have n1_ := Aside0.mk (hbox); have n2_ := Aside0.mk ((by rw [hg]; exact (below_size (by repeat (first | (with_reducible first | exact HB.out | apply below_alloc | apply pw_below_drewN | apply below_drew1) | exact HB.out))) : w.heap.size ≤ gb142)); have n3_ := Aside0.mk ((by rw [hg]; exact (below_size (by repeat (first | (with_reducible first | exact HB.out | apply below_alloc | apply pw_below_drewN | apply below_drew1) | exact HB.out))) : w.heap.size ≤ gb142)); clear HB; have HB := n0_; have BK142 := n1_; have GW142 := n2_; have GE142 := n3_; clear n0_ n1_ n2_ n3_; clear hb hbox hg; have hcz8_0 : w7.cell? ⟨gb142, 0, none⟩ = some (.int .i64 a0_0) := (blk_cell BK142.out 0).trans rfl; have hcz8_1 : w7.cell? ⟨gb142, 1, none⟩ = some (.int .i64 a0_1) := (blk_cell BK142.out 1).trans rfl; have hfz8_0 := blk_frozen BK142.out 0; have hfz8_1 := blk_frozen BK142.out 1) | ((with_reducible refine gate_dst (N := 7) rfl ?_); refine Kd.R_lit k23 _ 23 ?hg (N := 7) ?hd (xs := ([(⟨a0_0, a0_1⟩ : S23)] : List (S23))) (inner := [.int .i64 a0_0, .int .i64 a0_1]) (ok := fun _ => True) (okp := fun _ => True) ?hr ?hp (fun _ hk => hk) trivial (Below.refl _ _) (Nat.le_refl _) (by simp) ?_; (case hd => rfl); (case hg => rfl); (case hr => first | (go_simp; done) | (go_simp; rfl)); (case hp => exact (Reps.c2 (show Kd.M k23 _ _ _ (⟨a0_0, a0_1⟩ : S23) [.int .i64 a0_0, .int .i64 a0_1] from (k23_mkM _ _ _ (⟨a0_0, a0_1⟩ : S23) )) (Reps.none _ _))); intro v144 w9 ho10 hb hg_ hnew_; clear hg_ hnew_; (first | rw [← Ny143.out] at ho10 | (simp only [Int.reduceToNat] at ho10; rw [← Ny143.out] at ho10)); have n0_ := Aside0.mk (Kd.R_lower (Kd.R_newB ho10 (g := gb142) (o := .cells #[.int .i64 a0_0, .int .i64 a0_1] 23 (0, 0)) (by (with_reducible repeat (first | refine blk_drewN ?_ _ | refine blk_drew ?_ | refine blk_alloc ?_ _)); exact BK142.out)) (below_size (by repeat (first | (with_reducible first | exact HB.out | apply below_alloc | apply pw_below_drewN | apply below_drew1 | refine below_set ?_ GE142.out) | exact HB.out)))); have n1_ := Aside0.mk (blk_below (g := gb142) (o := .cells #[.int .i64 a0_0, .int .i64 a0_1] 23 (0, 0)) (by (with_reducible repeat (first | refine blk_drewN ?_ _ | refine blk_drew ?_ | refine blk_alloc ?_ _)); exact BK142.out) hb); have n2_ := Aside0.mk (below_step (by repeat (first | (with_reducible first | exact HB.out | apply below_alloc | apply pw_below_drewN | apply below_drew1 | refine below_set ?_ GE142.out) | exact HB.out)) hb); clear BK142; clear HB; have HO145 := n0_; have BK142 := n1_; have HB := n2_; clear n0_ n1_ n2_; clear hb ho10; obtain ⟨Ao11, co11, eo11⟩ := Kd.R_slice HO145.out; subst eo11) | (go_at_call 27; (with_reducible refine (deci_all.calls k _ _ y143 t146 _ ?side1 ?side2 A2.out).mono ?_); (case side1 => repeat (first | exact (Kd.R_reads' HO145.out).2.2 | (with_reducible refine Kd.C_alloc ?_ _) | (with_reducible refine Kd.C_drewN ?_ _) | (with_reducible refine Kd.C_drew ?_))); (case side2 => exact (Kd.R_reads' HO145.out).2.1); rintro e w12 ⟨rfl, hb⟩; have n0_ := Aside0.mk (Kd.R_below (by (with_reducible repeat (first | apply Kd.R_alloc | apply Kd.R_drewN | apply Kd.R_drew)); exact HO145.out) hb); have n1_ := Aside0.mk (blk_below (g := gb142) (o := .cells #[.int .i64 a0_0, .int .i64 a0_1] 23 (0, 0)) (by (with_reducible repeat (first | refine blk_drewN ?_ _ | refine blk_drew ?_ | refine blk_alloc ?_ _)); exact BK142.out) hb); have n2_ := Aside0.mk (below_step (by repeat (first | (with_reducible first | exact HB.out | apply below_alloc | apply pw_below_drewN | apply below_drew1 | refine below_set ?_ GE142.out) | exact HB.out)) hb); clear HO145; clear BK142; clear HB; have HO145 := n0_; have BK142 := n1_; have HB := n2_; clear n0_ n1_ n2_; (try clear hb); (try clear hb2); (try clear hk); (try clear hi); have hcz13_0 : w12.cell? ⟨gb142, 0, none⟩ = some (.int .i64 a0_0) := (blk_cell BK142.out 0).trans rfl; have hcz13_1 : w12.cell? ⟨gb142, 1, none⟩ = some (.int .i64 a0_1) := (blk_cell BK142.out 1).trans rfl; have hfz13_0 := blk_frozen BK142.out 0; have hfz13_1 := blk_frozen BK142.out 1) | (go_at_call 29; (with_reducible refine (deci_size.calls a0_0 a0_1 t147 _ A4.out).mono ?_); rintro e w14 ⟨rfl, hb⟩; have n0_ := Aside0.mk (Kd.R_below (by (with_reducible repeat (first | apply Kd.R_alloc | apply Kd.R_drewN | apply Kd.R_drew)); exact HO145.out) hb); have n1_ := Aside0.mk (blk_below (g := gb142) (o := .cells #[.int .i64 a0_0, .int .i64 a0_1] 23 (0, 0)) (by (with_reducible repeat (first | refine blk_drewN ?_ _ | refine blk_drew ?_ | refine blk_alloc ?_ _)); exact BK142.out) hb); have n2_ := Aside0.mk (below_step (by repeat (first | (with_reducible first | exact HB.out | apply below_alloc | apply pw_below_drewN | apply below_drew1 | refine below_set ?_ GE142.out) | exact HB.out)) hb); clear HO145; clear BK142; clear HB; have HO145 := n0_; have BK142 := n1_; have HB := n2_; clear n0_ n1_ n2_; (try clear hb); (try clear hb2); (try clear hk); (try clear hi)) | (go_at_call 35; (with_reducible refine (strconv_FormatUint.calls t147 10 t148 _ ?side1 A5.out).mono ?_); (case side1 => exact tabs_of HT.out (by repeat (first | (with_reducible first | exact HB.out | apply below_alloc | apply pw_below_drewN | apply below_drew1 | refine below_set ?_ GE142.out) | exact HB.out))); rintro e w15 ⟨rfl, hb⟩; have n0_ := Aside0.mk (Kd.R_below (by (with_reducible repeat (first | apply Kd.R_alloc | apply Kd.R_drewN | apply Kd.R_drew)); exact HO145.out) hb); have n1_ := Aside0.mk (blk_below (g := gb142) (o := .cells #[.int .i64 a0_0, .int .i64 a0_1] 23 (0, 0)) (by (with_reducible repeat (first | refine blk_drewN ?_ _ | refine blk_drew ?_ | refine blk_alloc ?_ _)); exact BK142.out) hb); have n2_ := Aside0.mk (below_step (by repeat (first | (with_reducible first | exact HB.out | apply below_alloc | apply pw_below_drewN | apply below_drew1 | refine below_set ?_ GE142.out) | exact HB.out)) hb); clear HO145; clear BK142; clear HB; have HO145 := n0_; have BK142 := n1_; have HB := n2_; clear n0_ n1_ n2_; (try clear hb); (try clear hb2); (try clear hk); (try clear hi); have hcz16_0 : w15.cell? ⟨gb142, 0, none⟩ = some (.int .i64 a0_0) := (blk_cell BK142.out 0).trans rfl; have hcz16_1 : w15.cell? ⟨gb142, 1, none⟩ = some (.int .i64 a0_1) := (blk_cell BK142.out 1).trans rfl; have hfz16_0 := blk_frozen BK142.out 0; have hfz16_1 := blk_frozen BK142.out 1))
    repeat (go_quiet (first | ((with_reducible refine gate_dst (N := 1) rfl ?_); refine box_event ?hg (N := 1) ?hd (cs := #[.int .i64 a0_0, .int .i64 a0_1]) (t := 23) ?hr ?_; (case hd => rfl); (case hg => rfl); (case hr => first | (go_simp; done) | (go_simp; rfl)); intro gb142 hg w7 hbox hb; have n0_ := Aside0.mk (below_step (by repeat (first | (with_reducible first | exact HB.out | apply below_alloc | apply pw_below_drewN | apply below_drew1) | exact HB.out)) hb); have n1_ := Aside0.mk (hbox); have n2_ := Aside0.mk ((by rw [hg]; exact (below_size (by repeat (first | (with_reducible first | exact HB.out | apply below_alloc | apply pw_below_drewN | apply below_drew1) | exact HB.out))) : w.heap.size ≤ gb142)); have n3_ := Aside0.mk ((by rw [hg]; exact (below_size (by repeat (first | (with_reducible first | exact HB.out | apply below_alloc | apply pw_below_drewN | apply below_drew1) | exact HB.out))) : w.heap.size ≤ gb142)); clear HB; have HB := n0_; have BK142 := n1_; have GW142 := n2_; have GE142 := n3_; clear n0_ n1_ n2_ n3_; clear hb hbox hg; have hcz8_0 : w7.cell? ⟨gb142, 0, none⟩ = some (.int .i64 a0_0) := (blk_cell BK142.out 0).trans rfl; have hcz8_1 : w7.cell? ⟨gb142, 1, none⟩ = some (.int .i64 a0_1) := (blk_cell BK142.out 1).trans rfl; have hfz8_0 := blk_frozen BK142.out 0; have hfz8_1 := blk_frozen BK142.out 1) | ((with_reducible refine gate_dst (N := 7) rfl ?_); refine Kd.R_lit k23 _ 23 ?hg (N := 7) ?hd (xs := ([(⟨a0_0, a0_1⟩ : S23)] : List (S23))) (inner := [.int .i64 a0_0, .int .i64 a0_1]) (ok := fun _ => True) (okp := fun _ => True) ?hr ?hp (fun _ hk => hk) trivial (Below.refl _ _) (Nat.le_refl _) (by simp) ?_; (case hd => rfl); (case hg => rfl); (case hr => first | (go_simp; done) | (go_simp; rfl)); (case hp => exact (Reps.c2 (show Kd.M k23 _ _ _ (⟨a0_0, a0_1⟩ : S23) [.int .i64 a0_0, .int .i64 a0_1] from (k23_mkM _ _ _ (⟨a0_0, a0_1⟩ : S23) )) (Reps.none _ _))); intro v144 w9 ho10 hb hg_ hnew_; clear hg_ hnew_; (first | rw [← Ny143.out] at ho10 | (simp only [Int.reduceToNat] at ho10; rw [← Ny143.out] at ho10)); have n0_ := Aside0.mk (Kd.R_lower (Kd.R_newB ho10 (g := gb142) (o := .cells #[.int .i64 a0_0, .int .i64 a0_1] 23 (0, 0)) (by (with_reducible repeat (first | refine blk_drewN ?_ _ | refine blk_drew ?_ | refine blk_alloc ?_ _)); exact BK142.out)) (below_size (by repeat (first | (with_reducible first | exact HB.out | apply below_alloc | apply pw_below_drewN | apply below_drew1 | refine below_set ?_ GE142.out) | exact HB.out)))); have n1_ := Aside0.mk (blk_below (g := gb142) (o := .cells #[.int .i64 a0_0, .int .i64 a0_1] 23 (0, 0)) (by (with_reducible repeat (first | refine blk_drewN ?_ _ | refine blk_drew ?_ | refine blk_alloc ?_ _)); exact BK142.out) hb); have n2_ := Aside0.mk (below_step (by repeat (first | (with_reducible first | exact HB.out | apply below_alloc | apply pw_below_drewN | apply below_drew1 | refine below_set ?_ GE142.out) | exact HB.out)) hb); clear BK142; clear HB; have HO145 := n0_; have BK142 := n1_; have HB := n2_; clear n0_ n1_ n2_; clear hb ho10; obtain ⟨Ao11, co11, eo11⟩ := Kd.R_slice HO145.out; subst eo11) | (go_at_call 27; (with_reducible refine (deci_all.calls k _ _ y143 t146 _ ?side1 ?side2 A2.out).mono ?_); (case side1 => repeat (first | exact (Kd.R_reads' HO145.out).2.2 | (with_reducible refine Kd.C_alloc ?_ _) | (with_reducible refine Kd.C_drewN ?_ _) | (with_reducible refine Kd.C_drew ?_))); (case side2 => exact (Kd.R_reads' HO145.out).2.1); rintro e w12 ⟨rfl, hb⟩; have n0_ := Aside0.mk (Kd.R_below (by (with_reducible repeat (first | apply Kd.R_alloc | apply Kd.R_drewN | apply Kd.R_drew)); exact HO145.out) hb); have n1_ := Aside0.mk (blk_below (g := gb142) (o := .cells #[.int .i64 a0_0, .int .i64 a0_1] 23 (0, 0)) (by (with_reducible repeat (first | refine blk_drewN ?_ _ | refine blk_drew ?_ | refine blk_alloc ?_ _)); exact BK142.out) hb); have n2_ := Aside0.mk (below_step (by repeat (first | (with_reducible first | exact HB.out | apply below_alloc | apply pw_below_drewN | apply below_drew1 | refine below_set ?_ GE142.out) | exact HB.out)) hb); clear HO145; clear BK142; clear HB; have HO145 := n0_; have BK142 := n1_; have HB := n2_; clear n0_ n1_ n2_; (try clear hb); (try clear hb2); (try clear hk); (try clear hi); have hcz13_0 : w12.cell? ⟨gb142, 0, none⟩ = some (.int .i64 a0_0) := (blk_cell BK142.out 0).trans rfl; have hcz13_1 : w12.cell? ⟨gb142, 1, none⟩ = some (.int .i64 a0_1) := (blk_cell BK142.out 1).trans rfl; have hfz13_0 := blk_frozen BK142.out 0; have hfz13_1 := blk_frozen BK142.out 1) | (go_at_call 29; (with_reducible refine (deci_size.calls a0_0 a0_1 t147 _ A4.out).mono ?_); rintro e w14 ⟨rfl, hb⟩; have n0_ := Aside0.mk (Kd.R_below (by (with_reducible repeat (first | apply Kd.R_alloc | apply Kd.R_drewN | apply Kd.R_drew)); exact HO145.out) hb); have n1_ := Aside0.mk (blk_below (g := gb142) (o := .cells #[.int .i64 a0_0, .int .i64 a0_1] 23 (0, 0)) (by (with_reducible repeat (first | refine blk_drewN ?_ _ | refine blk_drew ?_ | refine blk_alloc ?_ _)); exact BK142.out) hb); have n2_ := Aside0.mk (below_step (by repeat (first | (with_reducible first | exact HB.out | apply below_alloc | apply pw_below_drewN | apply below_drew1 | refine below_set ?_ GE142.out) | exact HB.out)) hb); clear HO145; clear BK142; clear HB; have HO145 := n0_; have BK142 := n1_; have HB := n2_; clear n0_ n1_ n2_; (try clear hb); (try clear hb2); (try clear hk); (try clear hi)) | (go_at_call 35; (with_reducible refine (strconv_FormatUint.calls t147 10 t148 _ ?side1 A5.out).mono ?_); (case side1 => exact tabs_of HT.out (by repeat (first | (with_reducible first | exact HB.out | apply below_alloc | apply pw_below_drewN | apply below_drew1 | refine below_set ?_ GE142.out) | exact HB.out))); rintro e w15 ⟨rfl, hb⟩; have n0_ := Aside0.mk (Kd.R_below (by (with_reducible repeat (first | apply Kd.R_alloc | apply Kd.R_drewN | apply Kd.R_drew)); exact HO145.out) hb); have n1_ := Aside0.mk (blk_below (g := gb142) (o := .cells #[.int .i64 a0_0, .int .i64 a0_1] 23 (0, 0)) (by (with_reducible repeat (first | refine blk_drewN ?_ _ | refine blk_drew ?_ | refine blk_alloc ?_ _)); exact BK142.out) hb); have n2_ := Aside0.mk (below_step (by repeat (first | (with_reducible first | exact HB.out | apply below_alloc | apply pw_below_drewN | apply below_drew1 | refine below_set ?_ GE142.out) | exact HB.out)) hb); clear HO145; clear BK142; clear HB; have HO145 := n0_; have BK142 := n1_; have HB := n2_; clear n0_ n1_ n2_; (try clear hb); (try clear hb2); (try clear hk); (try clear hi); have hcz16_0 : w15.cell? ⟨gb142, 0, none⟩ = some (.int .i64 a0_0) := (blk_cell BK142.out 0).trans rfl; have hcz16_1 : w15.cell? ⟨gb142, 1, none⟩ = some (.int .i64 a0_1) := (blk_cell BK142.out 1).trans rfl; have hfz16_0 := blk_frozen BK142.out 0; have hfz16_1 := blk_frozen BK142.out 1)); go_upto_if 17 with (first | ((with_reducible refine gate_dst (N := 1) rfl ?_); refine box_event ?hg (N := 1) ?hd (cs := #[.int .i64 a0_0, .int .i64 a0_1]) (t := 23) ?hr ?_; (case hd => rfl); (case hg => rfl); (case hr => first | (go_simp; done) | (go_simp; rfl)); intro gb142 hg w7 hbox hb; have n0_ := Aside0.mk (below_step (by repeat (first | (with_reducible first | exact HB.out | apply below_alloc | apply pw_below_drewN | apply below_drew1) | exact HB.out)) hb); have n1_ := Aside0.mk (hbox); have n2_ := Aside0.mk ((by rw [hg]; exact (below_size (by repeat (first | (with_reducible first | exact HB.out | apply below_alloc | apply pw_below_drewN | apply below_drew1) | exact HB.out))) : w.heap.size ≤ gb142)); have n3_ := Aside0.mk ((by rw [hg]; exact (below_size (by repeat (first | (with_reducible first | exact HB.out | apply below_alloc | apply pw_below_drewN | apply below_drew1) | exact HB.out))) : w.heap.size ≤ gb142)); clear HB; have HB := n0_; have BK142 := n1_; have GW142 := n2_; have GE142 := n3_; clear n0_ n1_ n2_ n3_; clear hb hbox hg; have hcz8_0 : w7.cell? ⟨gb142, 0, none⟩ = some (.int .i64 a0_0) := (blk_cell BK142.out 0).trans rfl; have hcz8_1 : w7.cell? ⟨gb142, 1, none⟩ = some (.int .i64 a0_1) := (blk_cell BK142.out 1).trans rfl; have hfz8_0 := blk_frozen BK142.out 0; have hfz8_1 := blk_frozen BK142.out 1) | ((with_reducible refine gate_dst (N := 7) rfl ?_); refine Kd.R_lit k23 _ 23 ?hg (N := 7) ?hd (xs := ([(⟨a0_0, a0_1⟩ : S23)] : List (S23))) (inner := [.int .i64 a0_0, .int .i64 a0_1]) (ok := fun _ => True) (okp := fun _ => True) ?hr ?hp (fun _ hk => hk) trivial (Below.refl _ _) (Nat.le_refl _) (by simp) ?_; (case hd => rfl); (case hg => rfl); (case hr => first | (go_simp; done) | (go_simp; rfl)); (case hp => exact (Reps.c2 (show Kd.M k23 _ _ _ (⟨a0_0, a0_1⟩ : S23) [.int .i64 a0_0, .int .i64 a0_1] from (k23_mkM _ _ _ (⟨a0_0, a0_1⟩ : S23) )) (Reps.none _ _))); intro v144 w9 ho10 hb hg_ hnew_; clear hg_ hnew_; (first | rw [← Ny143.out] at ho10 | (simp only [Int.reduceToNat] at ho10; rw [← Ny143.out] at ho10)); have n0_ := Aside0.mk (Kd.R_lower (Kd.R_newB ho10 (g := gb142) (o := .cells #[.int .i64 a0_0, .int .i64 a0_1] 23 (0, 0)) (by (with_reducible repeat (first | refine blk_drewN ?_ _ | refine blk_drew ?_ | refine blk_alloc ?_ _)); exact BK142.out)) (below_size (by repeat (first | (with_reducible first | exact HB.out | apply below_alloc | apply pw_below_drewN | apply below_drew1 | refine below_set ?_ GE142.out) | exact HB.out)))); have n1_ := Aside0.mk (blk_below (g := gb142) (o := .cells #[.int .i64 a0_0, .int .i64 a0_1] 23 (0, 0)) (by (with_reducible repeat (first | refine blk_drewN ?_ _ | refine blk_drew ?_ | refine blk_alloc ?_ _)); exact BK142.out) hb); have n2_ := Aside0.mk (below_step (by repeat (first | (with_reducible first | exact HB.out | apply below_alloc | apply pw_below_drewN | apply below_drew1 | refine below_set ?_ GE142.out) | exact HB.out)) hb); clear BK142; clear HB; have HO145 := n0_; have BK142 := n1_; have HB := n2_; clear n0_ n1_ n2_; clear hb ho10; obtain ⟨Ao11, co11, eo11⟩ := Kd.R_slice HO145.out; subst eo11) | (go_at_call 27; (with_reducible refine (deci_all.calls k _ _ y143 t146 _ ?side1 ?side2 A2.out).mono ?_); (case side1 => repeat (first | exact (Kd.R_reads' HO145.out).2.2 | (with_reducible refine Kd.C_alloc ?_ _) | (with_reducible refine Kd.C_drewN ?_ _) | (with_reducible refine Kd.C_drew ?_))); (case side2 => exact (Kd.R_reads' HO145.out).2.1); rintro e w12 ⟨rfl, hb⟩; have n0_ := Aside0.mk (Kd.R_below (by (with_reducible repeat (first | apply Kd.R_alloc | apply Kd.R_drewN | apply Kd.R_drew)); exact HO145.out) hb); have n1_ := Aside0.mk (blk_below (g := gb142) (o := .cells #[.int .i64 a0_0, .int .i64 a0_1] 23 (0, 0)) (by (with_reducible repeat (first | refine blk_drewN ?_ _ | refine blk_drew ?_ | refine blk_alloc ?_ _)); exact BK142.out) hb); have n2_ := Aside0.mk (below_step (by repeat (first | (with_reducible first | exact HB.out | apply below_alloc | apply pw_below_drewN | apply below_drew1 | refine below_set ?_ GE142.out) | exact HB.out)) hb); clear HO145; clear BK142; clear HB; have HO145 := n0_; have BK142 := n1_; have HB := n2_; clear n0_ n1_ n2_; (try clear hb); (try clear hb2); (try clear hk); (try clear hi); have hcz13_0 : w12.cell? ⟨gb142, 0, none⟩ = some (.int .i64 a0_0) := (blk_cell BK142.out 0).trans rfl; have hcz13_1 : w12.cell? ⟨gb142, 1, none⟩ = some (.int .i64 a0_1) := (blk_cell BK142.out 1).trans rfl; have hfz13_0 := blk_frozen BK142.out 0; have hfz13_1 := blk_frozen BK142.out 1) | (go_at_call 29; (with_reducible refine (deci_size.calls a0_0 a0_1 t147 _ A4.out).mono ?_); rintro e w14 ⟨rfl, hb⟩; have n0_ := Aside0.mk (Kd.R_below (by (with_reducible repeat (first | apply Kd.R_alloc | apply Kd.R_drewN | apply Kd.R_drew)); exact HO145.out) hb); have n1_ := Aside0.mk (blk_below (g := gb142) (o := .cells #[.int .i64 a0_0, .int .i64 a0_1] 23 (0, 0)) (by (with_reducible repeat (first | refine blk_drewN ?_ _ | refine blk_drew ?_ | refine blk_alloc ?_ _)); exact BK142.out) hb); have n2_ := Aside0.mk (below_step (by repeat (first | (with_reducible first | exact HB.out | apply below_alloc | apply pw_below_drewN | apply below_drew1 | refine below_set ?_ GE142.out) | exact HB.out)) hb); clear HO145; clear BK142; clear HB; have HO145 := n0_; have BK142 := n1_; have HB := n2_; clear n0_ n1_ n2_; (try clear hb); (try clear hb2); (try clear hk); (try clear hi)) | (go_at_call 35; (with_reducible refine (strconv_FormatUint.calls t147 10 t148 _ ?side1 A5.out).mono ?_); (case side1 => exact tabs_of HT.out (by repeat (first | (with_reducible first | exact HB.out | apply below_alloc | apply pw_below_drewN | apply below_drew1 | refine below_set ?_ GE142.out) | exact HB.out))); rintro e w15 ⟨rfl, hb⟩; have n0_ := Aside0.mk (Kd.R_below (by (with_reducible repeat (first | apply Kd.R_alloc | apply Kd.R_drewN | apply Kd.R_drew)); exact HO145.out) hb); have n1_ := Aside0.mk (blk_below (g := gb142) (o := .cells #[.int .i64 a0_0, .int .i64 a0_1] 23 (0, 0)) (by (with_reducible repeat (first | refine blk_drewN ?_ _ | refine blk_drew ?_ | refine blk_alloc ?_ _)); exact BK142.out) hb); have n2_ := Aside0.mk (below_step (by repeat (first | (with_reducible first | exact HB.out | apply below_alloc | apply pw_below_drewN | apply below_drew1 | refine below_set ?_ GE142.out) | exact HB.out)) hb); clear HO145; clear BK142; clear HB; have HO145 := n0_; have BK142 := n1_; have HB := n2_; clear n0_ n1_ n2_; (try clear hb); (try clear hb2); (try clear hk); (try clear hi); have hcz16_0 : w15.cell? ⟨gb142, 0, none⟩ = some (.int .i64 a0_0) := (blk_cell BK142.out 0).trans rfl; have hcz16_1 : w15.cell? ⟨gb142, 1, none⟩ = some (.int .i64 a0_1) := (blk_cell BK142.out 1).trans rfl; have hfz16_0 := blk_frozen BK142.out 0; have hfz16_1 := blk_frozen BK142.out 1)))
    (try simp only [Act.put, List.setIfInBounds_toArray, List.set_cons_zero, List.set_cons_succ])
    go_cut [5] (fun v5 wc => ∃ (kq : Nat) (x5_5 : ByteArray), v5 = .string x5_5 ∧ Aside0 (deci_Text.j0 kq x5_5 a0_0 a0_1 = some (r1, r2)) ∧ Aside0 (kq ≤ k) ∧ Aside0 (wc.heap[gb142]? = some (.cells #[.int .i64 a0_0, .int .i64 a0_1] 23 (0, 0))) ∧ Aside0 (Below w.heap.size w wc))
    case first =>
      have H := HC6.out
      clear HC6
      by_cases c17 : a0_1 > 0
      · rw [if_pos c17] at H
        have c17b0 : decide (0 < a0_1) = true := decide_eq_true c17
        clear c17
        (first | rw [c17b0] | (simp only [i64_w, i32_w]; rw [c17b0]) | skip)
        obtain ⟨ji18, hji18⟩ : ∃ j_ : Int, (mx 0 (wrap64 ((wrap64 (a0_1 + 1)) - (t148.size : Int)))) = j_ := ⟨_, rfl⟩
        replace H : ((strings_Repeat.f (⟨#[48]⟩ : ByteArray) (ji18)).bind fun t149 => (if t149.size + t148.size ≤ 9223372036854775807 then (if 0 ≤ (wrap64 (((t149 ++ t148).size : Int) - a0_1)) then (if (wrap64 (((t149 ++ t148).size : Int) - a0_1)) ≤ ((t149 ++ t148).size : Int) then (if ((t149 ++ t148).extract 0 ((wrap64 (((t149 ++ t148).size : Int) - a0_1)) : Int).toNat).size + 1 ≤ 9223372036854775807 then (if (((t149 ++ t148).extract 0 ((wrap64 (((t149 ++ t148).size : Int) - a0_1)) : Int).toNat) ++ (⟨#[46]⟩ : ByteArray)).size + ((t149 ++ t148).extract ((wrap64 (((t149 ++ t148).size : Int) - a0_1)) : Int).toNat (t149 ++ t148).size).size ≤ 9223372036854775807 then (deci_Text.j0 k ((((t149 ++ t148).extract 0 ((wrap64 (((t149 ++ t148).size : Int) - a0_1)) : Int).toNat) ++ (⟨#[46]⟩ : ByteArray)) ++ ((t149 ++ t148).extract ((wrap64 (((t149 ++ t148).size : Int) - a0_1)) : Int).toNat (t149 ++ t148).size)) a0_0 a0_1) else (none)) else (none)) else (none)) else (none)) else (none))) = some (r1, r2) := by first | (rw [hji18] at H; exact H) | (simp only [hji18] at H ⊢; exact H)
        (try (have hji18l : 0 ≤ ji18 := by (rw [← hji18]; unfold mx; (repeat' split) <;> omega)))
        (try (have hji18m : 0 ≤ ji18 := by omega))
        have hji18_ : (if 0 < (wrap64 ((wrap64 (a0_1 + 1)) - (t148.size : Int))) then (wrap64 ((wrap64 (a0_1 + 1)) - (t148.size : Int))) else 0) = ji18 := hji18
        replace H := Option.bind_eq_some_iff.mp H
        obtain ⟨t149, A190, H⟩ := H
        replace H : (if t149.size + t148.size ≤ 9223372036854775807 then (if 0 ≤ (wrap64 (((t149 ++ t148).size : Int) - a0_1)) then (if (wrap64 (((t149 ++ t148).size : Int) - a0_1)) ≤ ((t149 ++ t148).size : Int) then (if ((t149 ++ t148).extract 0 ((wrap64 (((t149 ++ t148).size : Int) - a0_1)) : Int).toNat).size + 1 ≤ 9223372036854775807 then (if (((t149 ++ t148).extract 0 ((wrap64 (((t149 ++ t148).size : Int) - a0_1)) : Int).toNat) ++ (⟨#[46]⟩ : ByteArray)).size + ((t149 ++ t148).extract ((wrap64 (((t149 ++ t148).size : Int) - a0_1)) : Int).toNat (t149 ++ t148).size).size ≤ 9223372036854775807 then (deci_Text.j0 k ((((t149 ++ t148).extract 0 ((wrap64 (((t149 ++ t148).size : Int) - a0_1)) : Int).toNat) ++ (⟨#[46]⟩ : ByteArray)) ++ ((t149 ++ t148).extract ((wrap64 (((t149 ++ t148).size : Int) - a0_1)) : Int).toNat (t149 ++ t148).size)) a0_0 a0_1) else (none)) else (none)) else (none)) else (none)) else (none)) = some (r1, r2) := H
        have A19 := Aside0.mk A190
        clear A190
        by_cases c20 : t149.size + t148.size ≤ 9223372036854775807
        · rw [if_pos c20] at H
          have c20b0 := eq_true c20
          have c20b1 : decide (t149.size + t148.size ≤ 9223372036854775807) = true := decide_eq_true c20
          try have c20b2 : (9223372036854775807 < t149.size + t148.size) = False := eq_false (Nat.not_lt.2 c20)
          obtain ⟨ji21, hji21⟩ : ∃ j_ : Int, (wrap64 (((t149 ++ t148).size : Int) - a0_1)) = j_ := ⟨_, rfl⟩
          replace H : (if 0 ≤ (ji21) then (if (ji21) ≤ ((t149 ++ t148).size : Int) then (if ((t149 ++ t148).extract 0 ((ji21) : Int).toNat).size + 1 ≤ 9223372036854775807 then (if (((t149 ++ t148).extract 0 ((ji21) : Int).toNat) ++ (⟨#[46]⟩ : ByteArray)).size + ((t149 ++ t148).extract ((ji21) : Int).toNat (t149 ++ t148).size).size ≤ 9223372036854775807 then (deci_Text.j0 k ((((t149 ++ t148).extract 0 ((ji21) : Int).toNat) ++ (⟨#[46]⟩ : ByteArray)) ++ ((t149 ++ t148).extract ((ji21) : Int).toNat (t149 ++ t148).size)) a0_0 a0_1) else (none)) else (none)) else (none)) else (none)) = some (r1, r2) := by first | (rw [hji21] at H; exact H) | (simp only [hji21] at H ⊢; exact H)
          (try rw [hji21] at A19)
          have hji21w : (IntKind.i64.wrap (((t149 ++ t148).size : Int) - a0_1)) = ji21 := (i64_w _).trans hji21
          by_cases c22 : 0 ≤ (ji21)
          · rw [if_pos c22] at H
            have c22b0 := eq_true c22
            have c22b1 : decide (0 ≤ (ji21)) = true := decide_eq_true c22
            clear c22
            by_cases c23 : (ji21) ≤ ((t149 ++ t148).size : Int)
            · rw [if_pos c23] at H
              have c23b0 := eq_true c23
              have c23b1 : decide ((ji21) ≤ ((t149 ++ t148).size : Int)) = true := decide_eq_true c23
              by_cases c24 : ((t149 ++ t148).extract 0 ((ji21) : Int).toNat).size + 1 ≤ 9223372036854775807
              · rw [if_pos c24] at H
                have c24b0 := eq_true c24
                have c24b1 : decide (((t149 ++ t148).extract 0 ((ji21) : Int).toNat).size + 1 ≤ 9223372036854775807) = true := decide_eq_true c24
                try have c24b2 : (9223372036854775807 < ((t149 ++ t148).extract 0 ((ji21) : Int).toNat).size + 1) = False := eq_false (Nat.not_lt.2 c24)
                have c25b0 := eq_true (of_decide_eq_true (by first | (with_reducible assumption) | assumption) : 0 ≤ (ji21))
                have c26b0 := eq_true (of_decide_eq_true (by first | (with_reducible assumption) | assumption) : (ji21) ≤ ((t149 ++ t148).size : Int))
                by_cases c27 : (((t149 ++ t148).extract 0 ((ji21) : Int).toNat) ++ (⟨#[46]⟩ : ByteArray)).size + ((t149 ++ t148).extract ((ji21) : Int).toNat (t149 ++ t148).size).size ≤ 9223372036854775807
                · rw [if_pos c27] at H
                  have c27b0 := eq_true c27
                  (try (have s10_ : wrap64 ((t149.size : Int) + (t148.size : Int) - a0_1) = ji21 := by have z := hji21; simp only [ByteArray.size_append, Int.natCast_add] at z; exact z))
                  (try (have s12_ : ji21 ≤ (t149.size : Int) + (t148.size : Int) := by have z : ji21 ≤ ((t149 ++ t148).size : Int) := (by assumption); simp only [ByteArray.size_append, Int.natCast_add] at z; exact z))
                  (try (have s16_ : ji21.toNat + 1 + (t149.size + t148.size - ji21.toNat) ≤ 9223372036854775807 := by have z := c27; have e : (⟨#[46]⟩ : ByteArray).size = 1 := rfl; simp only [ByteArray.size_append, ByteArray.size_extract] at z; omega))
                  have c27b1 : decide ((((t149 ++ t148).extract 0 ((ji21) : Int).toNat) ++ (⟨#[46]⟩ : ByteArray)).size + ((t149 ++ t148).extract ((ji21) : Int).toNat (t149 ++ t148).size).size ≤ 9223372036854775807) = true := decide_eq_true c27
                  try have c27b2 : (9223372036854775807 < (((t149 ++ t148).extract 0 ((ji21) : Int).toNat) ++ (⟨#[46]⟩ : ByteArray)).size + ((t149 ++ t148).extract ((ji21) : Int).toNat (t149 ++ t148).size).size) = False := eq_false (Nat.not_lt.2 c27)
                  have H' := Aside0.mk H
                  clear H
                  have hcz28_0 : w15.cell? ⟨gb142, 0, none⟩ = some (.int .i64 a0_0) := (blk_cell BK142.out 0).trans rfl
                  have hcz28_1 : w15.cell? ⟨gb142, 1, none⟩ = some (.int .i64 a0_1) := (blk_cell BK142.out 1).trans rfl
                  have hfz28_0 := blk_frozen BK142.out 0
                  have hfz28_1 := blk_frozen BK142.out 1
                  go_wp2_with (first | (go_at_call 36; (with_reducible refine (strings_Repeat.calls (⟨#[48]⟩ : ByteArray) ji18 t149 _ A19.out).mono ?_); rintro e w29 ⟨rfl, hb⟩; have n0_ := Aside0.mk (Kd.R_below (by (with_reducible repeat (first | apply Kd.R_alloc | apply Kd.R_drewN | apply Kd.R_drew)); exact HO145.out) hb); have n1_ := Aside0.mk (blk_below (g := gb142) (o := .cells #[.int .i64 a0_0, .int .i64 a0_1] 23 (0, 0)) (by (with_reducible repeat (first | refine blk_drewN ?_ _ | refine blk_drew ?_ | refine blk_alloc ?_ _)); exact BK142.out) hb); have n2_ := Aside0.mk (below_step (by repeat (first | (with_reducible first | exact HB.out | apply below_alloc | apply pw_below_drewN | apply below_drew1 | refine below_set ?_ GE142.out) | exact HB.out)) hb); clear HO145; clear BK142; clear HB; have HO145 := n0_; have BK142 := n1_; have HB := n2_; clear n0_ n1_ n2_; (try clear hb); (try clear hb2); (try clear hk); (try clear hi); have hcz30_0 : w29.cell? ⟨gb142, 0, none⟩ = some (.int .i64 a0_0) := (blk_cell BK142.out 0).trans rfl; have hcz30_1 : w29.cell? ⟨gb142, 1, none⟩ = some (.int .i64 a0_1) := (blk_cell BK142.out 1).trans rfl; have hfz30_0 := blk_frozen BK142.out 0; have hfz30_1 := blk_frozen BK142.out 1))
                  repeat (go_quiet (first | (go_at_call 36; (with_reducible refine (strings_Repeat.calls (⟨#[48]⟩ : ByteArray) ji18 t149 _ A19.out).mono ?_); rintro e w29 ⟨rfl, hb⟩; have n0_ := Aside0.mk (Kd.R_below (by (with_reducible repeat (first | apply Kd.R_alloc | apply Kd.R_drewN | apply Kd.R_drew)); exact HO145.out) hb); have n1_ := Aside0.mk (blk_below (g := gb142) (o := .cells #[.int .i64 a0_0, .int .i64 a0_1] 23 (0, 0)) (by (with_reducible repeat (first | refine blk_drewN ?_ _ | refine blk_drew ?_ | refine blk_alloc ?_ _)); exact BK142.out) hb); have n2_ := Aside0.mk (below_step (by repeat (first | (with_reducible first | exact HB.out | apply below_alloc | apply pw_below_drewN | apply below_drew1 | refine below_set ?_ GE142.out) | exact HB.out)) hb); clear HO145; clear BK142; clear HB; have HO145 := n0_; have BK142 := n1_; have HB := n2_; clear n0_ n1_ n2_; (try clear hb); (try clear hb2); (try clear hk); (try clear hi); have hcz30_0 : w29.cell? ⟨gb142, 0, none⟩ = some (.int .i64 a0_0) := (blk_cell BK142.out 0).trans rfl; have hcz30_1 : w29.cell? ⟨gb142, 1, none⟩ = some (.int .i64 a0_1) := (blk_cell BK142.out 1).trans rfl; have hfz30_0 := blk_frozen BK142.out 0; have hfz30_1 := blk_frozen BK142.out 1)); try go_wp2_with (first | (go_at_call 36; (with_reducible refine (strings_Repeat.calls (⟨#[48]⟩ : ByteArray) ji18 t149 _ A19.out).mono ?_); rintro e w29 ⟨rfl, hb⟩; have n0_ := Aside0.mk (Kd.R_below (by (with_reducible repeat (first | apply Kd.R_alloc | apply Kd.R_drewN | apply Kd.R_drew)); exact HO145.out) hb); have n1_ := Aside0.mk (blk_below (g := gb142) (o := .cells #[.int .i64 a0_0, .int .i64 a0_1] 23 (0, 0)) (by (with_reducible repeat (first | refine blk_drewN ?_ _ | refine blk_drew ?_ | refine blk_alloc ?_ _)); exact BK142.out) hb); have n2_ := Aside0.mk (below_step (by repeat (first | (with_reducible first | exact HB.out | apply below_alloc | apply pw_below_drewN | apply below_drew1 | refine below_set ?_ GE142.out) | exact HB.out)) hb); clear HO145; clear BK142; clear HB; have HO145 := n0_; have BK142 := n1_; have HB := n2_; clear n0_ n1_ n2_; (try clear hb); (try clear hb2); (try clear hk); (try clear hi); have hcz30_0 : w29.cell? ⟨gb142, 0, none⟩ = some (.int .i64 a0_0) := (blk_cell BK142.out 0).trans rfl; have hcz30_1 : w29.cell? ⟨gb142, 1, none⟩ = some (.int .i64 a0_1) := (blk_cell BK142.out 1).trans rfl; have hfz30_0 := blk_frozen BK142.out 0; have hfz30_1 := blk_frozen BK142.out 1)))
                  go_meet
                  case rel => exact ⟨_, ((((t149 ++ t148).extract 0 ((ji21) : Int).toNat) ++ (⟨#[46]⟩ : ByteArray)) ++ ((t149 ++ t148).extract ((ji21) : Int).toNat (t149 ++ t148).size)), (by first | rfl | (simp; done) | (simp only [← hji21] <;> (first | rfl | simp)) | (simp [*]; done)), H', ⟨by first | omega | exact Nat.le_refl _⟩, ⟨by (with_reducible repeat (first | refine blk_drewN ?_ _ | refine blk_drew ?_ | refine blk_alloc ?_ _)); exact BK142.out⟩, ⟨by repeat (first | (with_reducible first | exact HB.out | apply below_alloc | apply pw_below_drewN | apply below_drew1 | refine below_set ?_ GE142.out) | exact HB.out)⟩⟩
                · rw [if_neg c27] at H
                  exact absurd H (by simp)
              · rw [if_neg c24] at H
                exact absurd H (by simp)
            · rw [if_neg c23] at H
              exact absurd H (by simp)
          · rw [if_neg c22] at H
            exact absurd H (by simp)
        · rw [if_neg c20] at H
          exact absurd H (by simp)
      · rw [if_neg c17] at H
        have c17b0 : decide (0 < a0_1) = false := decide_eq_false c17
        clear c17
        (first | rw [c17b0] | (simp only [i64_w, i32_w]; rw [c17b0]) | skip)
        have H' := Aside0.mk H
        clear H
        go_wp2
        repeat (go_quiet (fail); try go_wp2)
        go_meet
        case rel => exact ⟨_, (t148), (by first | rfl | (simp; done) | (simp [*]; done)), H', ⟨by first | omega | exact Nat.le_refl _⟩, ⟨by (with_reducible repeat (first | refine blk_drewN ?_ _ | refine blk_drew ?_ | refine blk_alloc ?_ _)); exact BK142.out⟩, ⟨by repeat (first | (with_reducible first | exact HB.out | apply below_alloc | apply pw_below_drewN | apply below_drew1 | refine below_set ?_ GE142.out) | exact HB.out)⟩⟩
    case rest =>
      clear HC6
      try clear c1
      try clear c2
      try clear p2
      try clear c3
      try clear c3b0
      try clear c3b1
      try clear p6
      try clear c16
      try clear c17
      try clear c17b0
      try clear c20
      try clear c20b0
      try clear c20b1
      try clear c20b2
      try clear c22
      try clear c22b0
      try clear c22b1
      try clear c23
      try clear c23b0
      try clear c23b1
      try clear c24
      try clear c24b0
      try clear c24b1
      try clear c24b2
      try clear c25
      try clear c25b0
      try clear c26
      try clear c26b0
      try clear c27
      try clear c27b0
      try clear c27b1
      try clear c27b2
      try clear hcz13_0
      try clear hcz13_1
      try clear hcz16_0
      try clear hcz16_1
      try clear hcz28_0
      try clear hcz28_1
      try clear hcz30_0
      try clear hcz30_1
      try clear hcz8_0
      try clear hcz8_1
      try clear hfz13_0
      try clear hfz13_1
      try clear hfz16_0
      try clear hfz16_1
      try clear hfz28_0
      try clear hfz28_1
      try clear hfz30_0
      try clear hfz30_1
      try clear hfz8_0
      try clear hfz8_1
      obtain ⟨kq, x5_5, rfl, HA, HJ5, BK142, HB⟩ := hcut
      cases kq with
      | zero => exact absurd HA.out (by simp [deci_Text.j0])
      | succ kj5 =>
        have H := HA.out
        clear HA
        simp only [deci_Text.j0] at H
        by_cases c31 : a0_0 < 0
        · rw [if_pos c31] at H
          have c31b0 : decide (a0_0 < 0) = true := decide_eq_true c31
          clear c31
          by_cases c32 : 1 + x5_5.size ≤ 9223372036854775807
          · rw [if_pos c32] at H
            have c32b0 := eq_true c32
            have c32b1 : decide (1 + x5_5.size ≤ 9223372036854775807) = true := decide_eq_true c32
            try have c32b2 : (9223372036854775807 < 1 + x5_5.size) = False := eq_false (Nat.not_lt.2 c32)
            simp only [Option.some.injEq, Prod.mk.injEq] at H
            obtain ⟨rfl, rfl⟩ := H
            have hcz33_0 : wc.cell? ⟨gb142, 0, none⟩ = some (.int .i64 a0_0) := (blk_cell BK142.out 0).trans rfl
            have hcz33_1 : wc.cell? ⟨gb142, 1, none⟩ = some (.int .i64 a0_1) := (blk_cell BK142.out 1).trans rfl
            have hfz33_0 := blk_frozen BK142.out 0
            have hfz33_1 := blk_frozen BK142.out 1
            go_wp2
            repeat (go_quiet (fail); try go_wp2)
            go_ret2
            exact ⟨by first | rfl | (simp [errW_none, errW_some] <;> rfl) | (simp [*, errW_none, errW_some] <;> rfl), by repeat (first | (with_reducible first | exact HB.out | apply below_alloc | apply pw_below_drewN | apply below_drew1 | refine below_set ?_ GE142.out) | exact HB.out)⟩
          · rw [if_neg c32] at H
            exact absurd H (by simp)
        · rw [if_neg c31] at H
          have c31b0 : decide (a0_0 < 0) = false := decide_eq_false c31
          clear c31
          simp only [Option.some.injEq, Prod.mk.injEq] at H
          obtain ⟨rfl, rfl⟩ := H
          have hcz34_0 : wc.cell? ⟨gb142, 0, none⟩ = some (.int .i64 a0_0) := (blk_cell BK142.out 0).trans rfl
          have hcz34_1 : wc.cell? ⟨gb142, 1, none⟩ = some (.int .i64 a0_1) := (blk_cell BK142.out 1).trans rfl
          have hfz34_0 := blk_frozen BK142.out 0
          have hfz34_1 := blk_frozen BK142.out 1
          go_wp2
          repeat (go_quiet (fail); try go_wp2)
          go_ret2
          exact ⟨by first | rfl | (simp [errW_none, errW_some] <;> rfl) | (simp [*, errW_none, errW_some] <;> rfl), by repeat (first | (with_reducible first | exact HB.out | apply below_alloc | apply pw_below_drewN | apply below_drew1 | refine below_set ?_ GE142.out) | exact HB.out)⟩
  · rw [if_neg c3] at H
    have c3b0 : (t146 == 0) = false := beq_eq_false_iff_ne.mpr c3
    have c3b1 : (t146 != 0) = true := bne_iff_ne.mpr c3
    simp only [Option.some.injEq, Prod.mk.injEq] at H
    obtain ⟨rfl, rfl⟩ := H
    go_enter Tryd.func16, Tryd.ntmps16
    go_wp2_with (first | ((with_reducible refine gate_dst (N := 1) rfl ?_); refine box_event ?hg (N := 1) ?hd (cs := #[.int .i64 a0_0, .int .i64 a0_1]) (t := 23) ?hr ?_; (case hd => rfl); (case hg => rfl); (case hr => first | (go_simp; done) | (go_simp; rfl)); intro gb142 hg w35 hbox hb; have n0_ := Aside0.mk (below_step (by repeat (first | (with_reducible first | exact HB.out | apply below_alloc | apply pw_below_drewN | apply below_drew1) | exact HB.out)) hb); have n1_ := Aside0.mk (hbox); have n2_ := Aside0.mk ((by rw [hg]; exact (below_size (by repeat (first | (with_reducible first | exact HB.out | apply below_alloc | apply pw_below_drewN | apply below_drew1) | exact HB.out))) : w.heap.size ≤ gb142)); have n3_ := Aside0.mk ((by rw [hg]; exact (below_size (by repeat (first | (with_reducible first | exact HB.out | apply below_alloc | apply pw_below_drewN | apply below_drew1) | exact HB.out))) : w.heap.size ≤ gb142)); clear HB; have HB := n0_; have BK142 := n1_; have GW142 := n2_; have GE142 := n3_; clear n0_ n1_ n2_ n3_; clear hb hbox hg; have hcz36_0 : w35.cell? ⟨gb142, 0, none⟩ = some (.int .i64 a0_0) := (blk_cell BK142.out 0).trans rfl; have hcz36_1 : w35.cell? ⟨gb142, 1, none⟩ = some (.int .i64 a0_1) := (blk_cell BK142.out 1).trans rfl; have hfz36_0 := blk_frozen BK142.out 0; have hfz36_1 := blk_frozen BK142.out 1) | ((with_reducible refine gate_dst (N := 7) rfl ?_); refine Kd.R_lit k23 _ 23 ?hg (N := 7) ?hd (xs := ([(⟨a0_0, a0_1⟩ : S23)] : List (S23))) (inner := [.int .i64 a0_0, .int .i64 a0_1]) (ok := fun _ => True) (okp := fun _ => True) ?hr ?hp (fun _ hk => hk) trivial (Below.refl _ _) (Nat.le_refl _) (by simp) ?_; (case hd => rfl); (case hg => rfl); (case hr => first | (go_simp; done) | (go_simp; rfl)); (case hp => exact (Reps.c2 (show Kd.M k23 _ _ _ (⟨a0_0, a0_1⟩ : S23) [.int .i64 a0_0, .int .i64 a0_1] from (k23_mkM _ _ _ (⟨a0_0, a0_1⟩ : S23) )) (Reps.none _ _))); intro v144 w37 ho38 hb hg_ hnew_; clear hg_ hnew_; (first | rw [← Ny143.out] at ho38 | (simp only [Int.reduceToNat] at ho38; rw [← Ny143.out] at ho38)); have n0_ := Aside0.mk (Kd.R_lower (Kd.R_newB ho38 (g := gb142) (o := .cells #[.int .i64 a0_0, .int .i64 a0_1] 23 (0, 0)) (by (with_reducible repeat (first | refine blk_drewN ?_ _ | refine blk_drew ?_ | refine blk_alloc ?_ _)); exact BK142.out)) (below_size (by repeat (first | (with_reducible first | exact HB.out | apply below_alloc | apply pw_below_drewN | apply below_drew1 | refine below_set ?_ GE142.out) | exact HB.out)))); have n1_ := Aside0.mk (blk_below (g := gb142) (o := .cells #[.int .i64 a0_0, .int .i64 a0_1] 23 (0, 0)) (by (with_reducible repeat (first | refine blk_drewN ?_ _ | refine blk_drew ?_ | refine blk_alloc ?_ _)); exact BK142.out) hb); have n2_ := Aside0.mk (below_step (by repeat (first | (with_reducible first | exact HB.out | apply below_alloc | apply pw_below_drewN | apply below_drew1 | refine below_set ?_ GE142.out) | exact HB.out)) hb); clear BK142; clear HB; have HO145 := n0_; have BK142 := n1_; have HB := n2_; clear n0_ n1_ n2_; clear hb ho38; obtain ⟨Ao39, co39, eo39⟩ := Kd.R_slice HO145.out; subst eo39) | (go_at_call 27; (with_reducible refine (deci_all.calls k _ _ y143 t146 _ ?side1 ?side2 A2.out).mono ?_); (case side1 => repeat (first | exact (Kd.R_reads' HO145.out).2.2 | (with_reducible refine Kd.C_alloc ?_ _) | (with_reducible refine Kd.C_drewN ?_ _) | (with_reducible refine Kd.C_drew ?_))); (case side2 => exact (Kd.R_reads' HO145.out).2.1); rintro e w40 ⟨rfl, hb⟩; have n0_ := Aside0.mk (Kd.R_below (by (with_reducible repeat (first | apply Kd.R_alloc | apply Kd.R_drewN | apply Kd.R_drew)); exact HO145.out) hb); have n1_ := Aside0.mk (blk_below (g := gb142) (o := .cells #[.int .i64 a0_0, .int .i64 a0_1] 23 (0, 0)) (by (with_reducible repeat (first | refine blk_drewN ?_ _ | refine blk_drew ?_ | refine blk_alloc ?_ _)); exact BK142.out) hb); have n2_ := Aside0.mk (below_step (by repeat (first | (with_reducible first | exact HB.out | apply below_alloc | apply pw_below_drewN | apply below_drew1 | refine below_set ?_ GE142.out) | exact HB.out)) hb); clear HO145; clear BK142; clear HB; have HO145 := n0_; have BK142 := n1_; have HB := n2_; clear n0_ n1_ n2_; (try clear hb); (try clear hb2); (try clear hk); (try clear hi)))
    repeat (go_quiet (first | ((with_reducible refine gate_dst (N := 1) rfl ?_); refine box_event ?hg (N := 1) ?hd (cs := #[.int .i64 a0_0, .int .i64 a0_1]) (t := 23) ?hr ?_; (case hd => rfl); (case hg => rfl); (case hr => first | (go_simp; done) | (go_simp; rfl)); intro gb142 hg w35 hbox hb; have n0_ := Aside0.mk (below_step (by repeat (first | (with_reducible first | exact HB.out | apply below_alloc | apply pw_below_drewN | apply below_drew1) | exact HB.out)) hb); have n1_ := Aside0.mk (hbox); have n2_ := Aside0.mk ((by rw [hg]; exact (below_size (by repeat (first | (with_reducible first | exact HB.out | apply below_alloc | apply pw_below_drewN | apply below_drew1) | exact HB.out))) : w.heap.size ≤ gb142)); have n3_ := Aside0.mk ((by rw [hg]; exact (below_size (by repeat (first | (with_reducible first | exact HB.out | apply below_alloc | apply pw_below_drewN | apply below_drew1) | exact HB.out))) : w.heap.size ≤ gb142)); clear HB; have HB := n0_; have BK142 := n1_; have GW142 := n2_; have GE142 := n3_; clear n0_ n1_ n2_ n3_; clear hb hbox hg; have hcz36_0 : w35.cell? ⟨gb142, 0, none⟩ = some (.int .i64 a0_0) := (blk_cell BK142.out 0).trans rfl; have hcz36_1 : w35.cell? ⟨gb142, 1, none⟩ = some (.int .i64 a0_1) := (blk_cell BK142.out 1).trans rfl; have hfz36_0 := blk_frozen BK142.out 0; have hfz36_1 := blk_frozen BK142.out 1) | ((with_reducible refine gate_dst (N := 7) rfl ?_); refine Kd.R_lit k23 _ 23 ?hg (N := 7) ?hd (xs := ([(⟨a0_0, a0_1⟩ : S23)] : List (S23))) (inner := [.int .i64 a0_0, .int .i64 a0_1]) (ok := fun _ => True) (okp := fun _ => True) ?hr ?hp (fun _ hk => hk) trivial (Below.refl _ _) (Nat.le_refl _) (by simp) ?_; (case hd => rfl); (case hg => rfl); (case hr => first | (go_simp; done) | (go_simp; rfl)); (case hp => exact (Reps.c2 (show Kd.M k23 _ _ _ (⟨a0_0, a0_1⟩ : S23) [.int .i64 a0_0, .int .i64 a0_1] from (k23_mkM _ _ _ (⟨a0_0, a0_1⟩ : S23) )) (Reps.none _ _))); intro v144 w37 ho38 hb hg_ hnew_; clear hg_ hnew_; (first | rw [← Ny143.out] at ho38 | (simp only [Int.reduceToNat] at ho38; rw [← Ny143.out] at ho38)); have n0_ := Aside0.mk (Kd.R_lower (Kd.R_newB ho38 (g := gb142) (o := .cells #[.int .i64 a0_0, .int .i64 a0_1] 23 (0, 0)) (by (with_reducible repeat (first | refine blk_drewN ?_ _ | refine blk_drew ?_ | refine blk_alloc ?_ _)); exact BK142.out)) (below_size (by repeat (first | (with_reducible first | exact HB.out | apply below_alloc | apply pw_below_drewN | apply below_drew1 | refine below_set ?_ GE142.out) | exact HB.out)))); have n1_ := Aside0.mk (blk_below (g := gb142) (o := .cells #[.int .i64 a0_0, .int .i64 a0_1] 23 (0, 0)) (by (with_reducible repeat (first | refine blk_drewN ?_ _ | refine blk_drew ?_ | refine blk_alloc ?_ _)); exact BK142.out) hb); have n2_ := Aside0.mk (below_step (by repeat (first | (with_reducible first | exact HB.out | apply below_alloc | apply pw_below_drewN | apply below_drew1 | refine below_set ?_ GE142.out) | exact HB.out)) hb); clear BK142; clear HB; have HO145 := n0_; have BK142 := n1_; have HB := n2_; clear n0_ n1_ n2_; clear hb ho38; obtain ⟨Ao39, co39, eo39⟩ := Kd.R_slice HO145.out; subst eo39) | (go_at_call 27; (with_reducible refine (deci_all.calls k _ _ y143 t146 _ ?side1 ?side2 A2.out).mono ?_); (case side1 => repeat (first | exact (Kd.R_reads' HO145.out).2.2 | (with_reducible refine Kd.C_alloc ?_ _) | (with_reducible refine Kd.C_drewN ?_ _) | (with_reducible refine Kd.C_drew ?_))); (case side2 => exact (Kd.R_reads' HO145.out).2.1); rintro e w40 ⟨rfl, hb⟩; have n0_ := Aside0.mk (Kd.R_below (by (with_reducible repeat (first | apply Kd.R_alloc | apply Kd.R_drewN | apply Kd.R_drew)); exact HO145.out) hb); have n1_ := Aside0.mk (blk_below (g := gb142) (o := .cells #[.int .i64 a0_0, .int .i64 a0_1] 23 (0, 0)) (by (with_reducible repeat (first | refine blk_drewN ?_ _ | refine blk_drew ?_ | refine blk_alloc ?_ _)); exact BK142.out) hb); have n2_ := Aside0.mk (below_step (by repeat (first | (with_reducible first | exact HB.out | apply below_alloc | apply pw_below_drewN | apply below_drew1 | refine below_set ?_ GE142.out) | exact HB.out)) hb); clear HO145; clear BK142; clear HB; have HO145 := n0_; have BK142 := n1_; have HB := n2_; clear n0_ n1_ n2_; (try clear hb); (try clear hb2); (try clear hk); (try clear hi))); try go_wp2_with (first | ((with_reducible refine gate_dst (N := 1) rfl ?_); refine box_event ?hg (N := 1) ?hd (cs := #[.int .i64 a0_0, .int .i64 a0_1]) (t := 23) ?hr ?_; (case hd => rfl); (case hg => rfl); (case hr => first | (go_simp; done) | (go_simp; rfl)); intro gb142 hg w35 hbox hb; have n0_ := Aside0.mk (below_step (by repeat (first | (with_reducible first | exact HB.out | apply below_alloc | apply pw_below_drewN | apply below_drew1) | exact HB.out)) hb); have n1_ := Aside0.mk (hbox); have n2_ := Aside0.mk ((by rw [hg]; exact (below_size (by repeat (first | (with_reducible first | exact HB.out | apply below_alloc | apply pw_below_drewN | apply below_drew1) | exact HB.out))) : w.heap.size ≤ gb142)); have n3_ := Aside0.mk ((by rw [hg]; exact (below_size (by repeat (first | (with_reducible first | exact HB.out | apply below_alloc | apply pw_below_drewN | apply below_drew1) | exact HB.out))) : w.heap.size ≤ gb142)); clear HB; have HB := n0_; have BK142 := n1_; have GW142 := n2_; have GE142 := n3_; clear n0_ n1_ n2_ n3_; clear hb hbox hg; have hcz36_0 : w35.cell? ⟨gb142, 0, none⟩ = some (.int .i64 a0_0) := (blk_cell BK142.out 0).trans rfl; have hcz36_1 : w35.cell? ⟨gb142, 1, none⟩ = some (.int .i64 a0_1) := (blk_cell BK142.out 1).trans rfl; have hfz36_0 := blk_frozen BK142.out 0; have hfz36_1 := blk_frozen BK142.out 1) | ((with_reducible refine gate_dst (N := 7) rfl ?_); refine Kd.R_lit k23 _ 23 ?hg (N := 7) ?hd (xs := ([(⟨a0_0, a0_1⟩ : S23)] : List (S23))) (inner := [.int .i64 a0_0, .int .i64 a0_1]) (ok := fun _ => True) (okp := fun _ => True) ?hr ?hp (fun _ hk => hk) trivial (Below.refl _ _) (Nat.le_refl _) (by simp) ?_; (case hd => rfl); (case hg => rfl); (case hr => first | (go_simp; done) | (go_simp; rfl)); (case hp => exact (Reps.c2 (show Kd.M k23 _ _ _ (⟨a0_0, a0_1⟩ : S23) [.int .i64 a0_0, .int .i64 a0_1] from (k23_mkM _ _ _ (⟨a0_0, a0_1⟩ : S23) )) (Reps.none _ _))); intro v144 w37 ho38 hb hg_ hnew_; clear hg_ hnew_; (first | rw [← Ny143.out] at ho38 | (simp only [Int.reduceToNat] at ho38; rw [← Ny143.out] at ho38)); have n0_ := Aside0.mk (Kd.R_lower (Kd.R_newB ho38 (g := gb142) (o := .cells #[.int .i64 a0_0, .int .i64 a0_1] 23 (0, 0)) (by (with_reducible repeat (first | refine blk_drewN ?_ _ | refine blk_drew ?_ | refine blk_alloc ?_ _)); exact BK142.out)) (below_size (by repeat (first | (with_reducible first | exact HB.out | apply below_alloc | apply pw_below_drewN | apply below_drew1 | refine below_set ?_ GE142.out) | exact HB.out)))); have n1_ := Aside0.mk (blk_below (g := gb142) (o := .cells #[.int .i64 a0_0, .int .i64 a0_1] 23 (0, 0)) (by (with_reducible repeat (first | refine blk_drewN ?_ _ | refine blk_drew ?_ | refine blk_alloc ?_ _)); exact BK142.out) hb); have n2_ := Aside0.mk (below_step (by repeat (first | (with_reducible first | exact HB.out | apply below_alloc | apply pw_below_drewN | apply below_drew1 | refine below_set ?_ GE142.out) | exact HB.out)) hb); clear BK142; clear HB; have HO145 := n0_; have BK142 := n1_; have HB := n2_; clear n0_ n1_ n2_; clear hb ho38; obtain ⟨Ao39, co39, eo39⟩ := Kd.R_slice HO145.out; subst eo39) | (go_at_call 27; (with_reducible refine (deci_all.calls k _ _ y143 t146 _ ?side1 ?side2 A2.out).mono ?_); (case side1 => repeat (first | exact (Kd.R_reads' HO145.out).2.2 | (with_reducible refine Kd.C_alloc ?_ _) | (with_reducible refine Kd.C_drewN ?_ _) | (with_reducible refine Kd.C_drew ?_))); (case side2 => exact (Kd.R_reads' HO145.out).2.1); rintro e w40 ⟨rfl, hb⟩; have n0_ := Aside0.mk (Kd.R_below (by (with_reducible repeat (first | apply Kd.R_alloc | apply Kd.R_drewN | apply Kd.R_drew)); exact HO145.out) hb); have n1_ := Aside0.mk (blk_below (g := gb142) (o := .cells #[.int .i64 a0_0, .int .i64 a0_1] 23 (0, 0)) (by (with_reducible repeat (first | refine blk_drewN ?_ _ | refine blk_drew ?_ | refine blk_alloc ?_ _)); exact BK142.out) hb); have n2_ := Aside0.mk (below_step (by repeat (first | (with_reducible first | exact HB.out | apply below_alloc | apply pw_below_drewN | apply below_drew1 | refine below_set ?_ GE142.out) | exact HB.out)) hb); clear HO145; clear BK142; clear HB; have HO145 := n0_; have BK142 := n1_; have HB := n2_; clear n0_ n1_ n2_; (try clear hb); (try clear hb2); (try clear hk); (try clear hi))))
    go_ret2
    exact ⟨by first | rfl | (simp [errW_none, errW_some] <;> rfl) | (simp [*, errW_none, errW_some] <;> rfl), by repeat (first | (with_reducible first | exact HB.out | apply below_alloc | apply pw_below_drewN | apply below_drew1 | refine below_set ?_ GE142.out) | exact HB.out)⟩
end Go.Proofs.YtgkemhgihbfmmaaDoor.PA
end
section
namespace Go.Proofs.YtgkemhgihbfmmaaDoor.PA
open Go.RowKit Go.Proofs.YtgkemhgihbfmmaaDoorW.PrintWords Go.Proofs.YtgkemhgihbfmmaaDoorW.PrintLast Go.Proofs.YtgkemhgihbfmmaaDoorW.PrintMore
attribute [local go_sem] max2_int min2_int max_two min_two max_three min_three max_four min_four
set_option linter.unusedVariables false
set_option linter.unusedSimpArgs false
def stringslite_HasPrefix.f (a0 : ByteArray) (a1 : ByteArray) : Option (Bool) := if (a0.size : Int) ≥ (a1.size : Int) then (if 0 ≤ (a1.size : Int) then (if (a1.size : Int) ≤ (a0.size : Int) then (some ((a0.extract 0 ((a1.size : Int) : Int).toNat).toList == a1.toList)) else (none)) else (none)) else (some false)
set_option maxHeartbeats 8000000 in
set_option maxRecDepth 100000 in
theorem stringslite_HasPrefix.calls (a0 : ByteArray) (a1 : ByteArray) (r : Bool) (w : World) (h : stringslite_HasPrefix.f a0 a1 = some r) :
    Calls Tryd.prog 70 #[.string a0, .string a1] w fun e w' => e = .returned (.bool r) ∧ Drawn0 w w' := by
  have H : (if (a0.size : Int) ≥ (a1.size : Int) then (if 0 ≤ (a1.size : Int) then (if (a1.size : Int) ≤ (a0.size : Int) then (some ((a0.extract 0 ((a1.size : Int) : Int).toNat).toList == a1.toList)) else (none)) else (none)) else (some false)) = some r := h
  clear h
  by_cases c3 : (a0.size : Int) ≥ (a1.size : Int)
  · rw [if_pos c3] at H
    have c3b0 : decide ((a1.size : Int) ≤ (a0.size : Int)) = true := decide_eq_true c3
    have c3b1 : decide (a1.size ≤ a0.size) = true := decide_eq_true (Int.ofNat_le.mp c3)
    clear c3
    by_cases c4 : 0 ≤ (a1.size : Int)
    · rw [if_pos c4] at H
      have c4b0 := eq_true c4
      have c4b1 : decide (0 ≤ (a1.size : Int)) = true := decide_eq_true c4
      clear c4
      by_cases c5 : (a1.size : Int) ≤ (a0.size : Int)
      · rw [if_pos c5] at H
        have c5b0 := eq_true c5
        have c5b1 : decide ((a1.size : Int) ≤ (a0.size : Int)) = true := decide_eq_true c5
        clear c5
        obtain rfl := Option.some.inj H
        go_enter Tryd.func70, Tryd.ntmps70
        go_wp2
        go_ret
        exact ⟨by first | rfl | (simp; done) | (simp [*]; done), by repeat (first | exact Drawn0.refl _ | apply Drawn0.step)⟩
      · rw [if_neg c5] at H
        exact absurd H (by simp)
    · rw [if_neg c4] at H
      exact absurd H (by simp)
  · rw [if_neg c3] at H
    have c3b0 : decide ((a1.size : Int) ≤ (a0.size : Int)) = false := decide_eq_false c3
    have c3b1 : decide (a1.size ≤ a0.size) = false := decide_eq_false (fun h => c3 (Int.ofNat_le.mpr h))
    clear c3
    obtain rfl := Option.some.inj H
    go_enter Tryd.func70, Tryd.ntmps70
    go_wp2
    go_ret
    exact ⟨by first | rfl | (simp; done) | (simp [*]; done), by repeat (first | exact Drawn0.refl _ | apply Drawn0.step)⟩
def stringslite_CutPrefix.f (a0 : ByteArray) (a1 : ByteArray) : Option (ByteArray × Bool) := (stringslite_HasPrefix.f a0 a1).bind fun t150 => (if t150 = true then (if 0 ≤ (a1.size : Int) then (if (a1.size : Int) ≤ (a0.size : Int) then (some (a0.extract ((a1.size : Int) : Int).toNat a0.size, true)) else (none)) else (none)) else (some (a0, false)))
set_option maxHeartbeats 8000000 in
set_option maxRecDepth 100000 in
theorem stringslite_CutPrefix.calls (a0 : ByteArray) (a1 : ByteArray) (r1 : ByteArray) (r2 : Bool) (w : World) (h : stringslite_CutPrefix.f a0 a1 = some (r1, r2)) :
    Calls Tryd.prog 54 #[.string a0, .string a1] w fun e w' => e = .returned (.tuple #[.string r1, .bool r2]) ∧ Drawn0 w w' := by
  have H : ((stringslite_HasPrefix.f a0 a1).bind fun t150 => (if t150 = true then (if 0 ≤ (a1.size : Int) then (if (a1.size : Int) ≤ (a0.size : Int) then (some (a0.extract ((a1.size : Int) : Int).toNat a0.size, true)) else (none)) else (none)) else (some (a0, false)))) = some (r1, r2) := h
  clear h
  replace H := Option.bind_eq_some_iff.mp H
  obtain ⟨t150, A30, H⟩ := H
  replace H : (if t150 = true then (if 0 ≤ (a1.size : Int) then (if (a1.size : Int) ≤ (a0.size : Int) then (some (a0.extract ((a1.size : Int) : Int).toNat a0.size, true)) else (none)) else (none)) else (some (a0, false))) = some (r1, r2) := H
  have A3 := Aside0.mk A30
  clear A30
  by_cases c4 : t150 = true
  · subst c4
    have H1 : (if 0 ≤ (a1.size : Int) then (if (a1.size : Int) ≤ (a0.size : Int) then (some (a0.extract ((a1.size : Int) : Int).toNat a0.size, true)) else (none)) else (none)) = some (r1, r2) := by rw [if_pos rfl] at H; exact H
    clear H
    have H := H1
    clear H1
    by_cases c5 : 0 ≤ (a1.size : Int)
    · rw [if_pos c5] at H
      have c5b0 := eq_true c5
      have c5b1 : decide (0 ≤ (a1.size : Int)) = true := decide_eq_true c5
      clear c5
      by_cases c6 : (a1.size : Int) ≤ (a0.size : Int)
      · rw [if_pos c6] at H
        have c6b0 := eq_true c6
        have c6b1 : decide ((a1.size : Int) ≤ (a0.size : Int)) = true := decide_eq_true c6
        clear c6
        simp only [Option.some.injEq, Prod.mk.injEq] at H
        obtain ⟨rfl, rfl⟩ := H
        go_enter Tryd.func54, Tryd.ntmps54
        go_wp2_with (first | ((with_reducible refine gate_callee (f := 70) rfl ?_); refine goesL_ (some 8) rfl rfl Tryd.func70 (by kernel_rfl) rfl #[.string a0, .string a1] rfl (by (try simp only [List.map_toArray, List.map_cons, List.map_nil]); first | done | rfl | (simp only [List.length_drop, List.length_take]; rfl)) ?_; (with_reducible refine (stringslite_HasPrefix.calls a0 a1 true _ A3.out).mono ?_); rintro e w' ⟨rfl, ⟨nd, rfl⟩⟩; refine ⟨_, rfl, ?_⟩))
        go_ret2
        exact ⟨by first | rfl | (simp; done) | (simp [*]; done), by repeat (first | exact Drawn0.refl _ | apply Drawn0.step)⟩
      · rw [if_neg c6] at H
        exact absurd H (by simp)
    · rw [if_neg c5] at H
      exact absurd H (by simp)
  · replace c4 := Bool.eq_false_iff.mpr c4
    subst c4
    have H1 : (some (a0, false)) = some (r1, r2) := by rw [if_neg (show ¬ (false = true) by decide)] at H; exact H
    clear H
    have H := H1
    clear H1
    simp only [Option.some.injEq, Prod.mk.injEq] at H
    obtain ⟨rfl, rfl⟩ := H
    go_enter Tryd.func54, Tryd.ntmps54
    go_wp2_with (first | ((with_reducible refine gate_callee (f := 70) rfl ?_); refine goesL_ (some 8) rfl rfl Tryd.func70 (by kernel_rfl) rfl #[.string a0, .string a1] rfl (by (try simp only [List.map_toArray, List.map_cons, List.map_nil]); first | done | rfl | (simp only [List.length_drop, List.length_take]; rfl)) ?_; (with_reducible refine (stringslite_HasPrefix.calls a0 a1 false _ A3.out).mono ?_); rintro e w' ⟨rfl, ⟨nd, rfl⟩⟩; refine ⟨_, rfl, ?_⟩))
    go_ret2
    exact ⟨by first | rfl | (simp; done) | (simp [*]; done), by repeat (first | exact Drawn0.refl _ | apply Drawn0.step)⟩
def strings_CutPrefix.f (a0 : ByteArray) (a1 : ByteArray) : Option (ByteArray × Bool) := (stringslite_CutPrefix.f a0 a1).bind fun bt151 => (some (bt151.1, bt151.2))
set_option maxHeartbeats 8000000 in
set_option maxRecDepth 100000 in
theorem strings_CutPrefix.calls (a0 : ByteArray) (a1 : ByteArray) (r1 : ByteArray) (r2 : Bool) (w : World) (h : strings_CutPrefix.f a0 a1 = some (r1, r2)) :
    Calls Tryd.prog 37 #[.string a0, .string a1] w fun e w' => e = .returned (.tuple #[.string r1, .bool r2]) ∧ Drawn0 w w' := by
  have H : ((stringslite_CutPrefix.f a0 a1).bind fun bt151 => (some (bt151.1, bt151.2))) = some (r1, r2) := h
  clear h
  replace H := Option.bind_eq_some_iff.mp H
  obtain ⟨⟨t151, t152⟩, A30, H⟩ := H
  replace H : (some (t151, t152)) = some (r1, r2) := H
  have A3 := Aside0.mk A30
  clear A30
  simp only [Option.some.injEq, Prod.mk.injEq] at H
  obtain ⟨rfl, rfl⟩ := H
  go_enter Tryd.func37, Tryd.ntmps37
  go_wp2_with (first | ((with_reducible refine gate_callee (f := 54) rfl ?_); refine goesL_ (some 8) rfl rfl Tryd.func54 (by kernel_rfl) rfl #[.string a0, .string a1] rfl (by (try simp only [List.map_toArray, List.map_cons, List.map_nil]); first | done | rfl | (simp only [List.length_drop, List.length_take]; rfl)) ?_; (with_reducible refine (stringslite_CutPrefix.calls a0 a1 t151 t152 _ A3.out).mono ?_); rintro e w' ⟨rfl, ⟨nd, rfl⟩⟩; refine ⟨_, rfl, ?_⟩))
  go_ret2
  exact ⟨by first | rfl | (simp; done) | (simp [*]; done), by repeat (first | exact Drawn0.refl _ | apply Drawn0.step)⟩
def deci_digits.f (a0 : ByteArray) : Option (Bool) := if a0.toList = ([] : List UInt8) then (some false) else ((strings_Trim.f a0 (⟨#[48, 49, 50, 51, 52, 53, 54, 55, 56, 57]⟩ : ByteArray)).bind fun t153 => (some (t153.toList == ([] : List UInt8))))
set_option maxHeartbeats 8000000 in
set_option maxRecDepth 100000 in
theorem deci_digits.calls (a0 : ByteArray) (r : Bool) (w : World) (h : deci_digits.f a0 = some r) :
    Calls Tryd.prog 39 #[.string a0] w fun e w' => e = .returned (.bool r) ∧ Below w.heap.size w w' := by
  have HB := Aside0.mk (Below.refl w.heap.size w)
  have H : (if a0.toList = ([] : List UInt8) then (some false) else ((strings_Trim.f a0 (⟨#[48, 49, 50, 51, 52, 53, 54, 55, 56, 57]⟩ : ByteArray)).bind fun t153 => (some (t153.toList == ([] : List UInt8))))) = some r := h
  clear h
  by_cases c2 : a0.toList = ([] : List UInt8)
  · rw [if_pos c2] at H
    have c2b0 : (a0.toList == ([] : List UInt8)) = true := beq_iff_eq.mpr c2
    have c2b1 : (a0.toList != ([] : List UInt8)) = false := bne_eq_false_iff_eq.mpr c2
    clear c2
    obtain rfl := Option.some.inj H
    go_enter Tryd.func39, Tryd.ntmps39
    go_wp2
    go_ret
    exact ⟨by first | rfl | (simp [errW_none, errW_some] <;> rfl) | (simp [*, errW_none, errW_some] <;> rfl), by repeat (first | (with_reducible first | exact HB.out | apply below_alloc | apply pw_below_drewN | apply below_drew1) | exact HB.out)⟩
  · rw [if_neg c2] at H
    have c2b0 : (a0.toList == ([] : List UInt8)) = false := beq_eq_false_iff_ne.mpr c2
    have c2b1 : (a0.toList != ([] : List UInt8)) = true := bne_iff_ne.mpr c2
    replace H := Option.bind_eq_some_iff.mp H
    obtain ⟨t153, A30, H⟩ := H
    replace H : (some (t153.toList == ([] : List UInt8))) = some r := H
    have A3 := Aside0.mk A30
    clear A30
    obtain rfl := Option.some.inj H
    go_enter Tryd.func39, Tryd.ntmps39
    go_wp2_with (first | (go_at_call 56; (with_reducible refine (strings_Trim.calls a0 (⟨#[48, 49, 50, 51, 52, 53, 54, 55, 56, 57]⟩ : ByteArray) t153 _ A3.out).mono ?_); rintro e w4 ⟨rfl, hb⟩; have n0_ := Aside0.mk (below_step (by repeat (first | (with_reducible first | exact HB.out | apply below_alloc | apply pw_below_drewN | apply below_drew1) | exact HB.out)) hb); clear HB; have HB := n0_; clear n0_; (try clear hb); (try clear hb2); (try clear hk); (try clear hi)))
    go_ret
    exact ⟨by first | rfl | (simp [errW_none, errW_some] <;> rfl) | (simp [*, errW_none, errW_some] <;> rfl), by repeat (first | (with_reducible first | exact HB.out | apply below_alloc | apply pw_below_drewN | apply below_drew1) | exact HB.out)⟩
end Go.Proofs.YtgkemhgihbfmmaaDoor.PA
end
section
namespace Go.Proofs.YtgkemhgihbfmmaaDoor.PA
open Go.RowKit Go.Proofs.YtgkemhgihbfmmaaDoorW.PrintWords Go.Proofs.YtgkemhgihbfmmaaDoorW.PrintLast Go.Proofs.YtgkemhgihbfmmaaDoorW.PrintMore
attribute [local go_sem] max2_int min2_int max_two min_two max_three min_three max_four min_four
set_option linter.unusedVariables false
set_option linter.unusedSimpArgs false
mutual
def deci_Parse.j0 : Nat → Bool → ByteArray → ByteArray → Bool → Option (Int × Int × Int)
  | 0, _, _, _, _ => none
  | k + 1, x5, x6, x7, x42 => if x42 = true then (some (0, 0, 5)) else ((strings_TrimRight.f x7 (⟨#[48]⟩ : ByteArray)).bind fun t162 => (if (t162.size : Int) > 6 then (deci_Parse.j1 k x5 x6 t162 true) else (deci_Parse.j1 k x5 x6 t162 (decide ((x6.size : Int) > 12)))))
def deci_Parse.j1 : Nat → Bool → ByteArray → ByteArray → Bool → Option (Int × Int × Int)
  | 0, _, _, _, _ => none
  | k + 1, x5, x6, x7, x53 => if x53 = true then (some (0, 0, 3)) else (if x6.size + x7.size ≤ 9223372036854775807 then ((strconv_ParseUint.f (x6 ++ x7) 10 64).bind fun bt163 => ((deci_form_dec.f k bt163.1 (x7.size : Int) x5).bind fun bt165 => (some (bt165.1, bt165.2.1, bt165.2.2)))) else (none))
end
def deci_Parse.f (k : Nat) (a0 : ByteArray) : Option (Int × Int × Int) := (strings_CutPrefix.f a0 (⟨#[45]⟩ : ByteArray)).bind fun bt155 => ((strings_Cut.f bt155.1 (⟨#[46]⟩ : ByteArray)).bind fun bt157 => ((deci_digits.f bt157.1).bind fun t160 => (if t160 = true then (if bt157.2.2 = true then ((deci_digits.f bt157.2.1).bind fun t161 => (if t161 = true then (if (bt157.1.size : Int) > 1 then (if 0 < (bt157.1.size : Int) then (deci_Parse.j0 k bt155.2 bt157.1 bt157.2.1 ((bt bt157.1 0) == 48)) else (none)) else (deci_Parse.j0 k bt155.2 bt157.1 bt157.2.1 false)) else (deci_Parse.j0 k bt155.2 bt157.1 bt157.2.1 true))) else (if (bt157.1.size : Int) > 1 then (if 0 < (bt157.1.size : Int) then (deci_Parse.j0 k bt155.2 bt157.1 bt157.2.1 ((bt bt157.1 0) == 48)) else (none)) else (deci_Parse.j0 k bt155.2 bt157.1 bt157.2.1 false))) else (deci_Parse.j0 k bt155.2 bt157.1 bt157.2.1 true))))
theorem deci_Parse.mono_l : ∀ k, (∀ y0 y1 y2 y3, LeO (deci_Parse.j0 k y0 y1 y2 y3) (deci_Parse.j0 (k + 1) y0 y1 y2 y3)) ∧ (∀ y0 y1 y2 y3, LeO (deci_Parse.j1 k y0 y1 y2 y3) (deci_Parse.j1 (k + 1) y0 y1 y2 y3))
  | 0 => ⟨fun _ _ _ _ r h => by simp [deci_Parse.j0] at h, fun _ _ _ _ r h => by simp [deci_Parse.j1] at h⟩
  | k + 1 => by
    obtain ⟨ih0, ih1⟩ := deci_Parse.mono_l k
    refine ⟨?_, ?_⟩
    · intro y0 y1 y2 y3
      unfold deci_Parse.j0
      repeat' first
      | (with_reducible exact ih0 _ _ _ _)
      | (with_reducible exact ih1 _ _ _ _)
      | (with_reducible exact deci_form_dec.mono _ _ _ _)
      | (with_reducible exact LeO.refl _)
      | (with_reducible exact LeO.none _)
      | (with_reducible refine LeO.ite ?_ ?_)
      | (with_reducible refine LeO.bind ?_ (fun _ => ?_))
      | exact ih0 _ _ _ _
      | exact ih1 _ _ _ _
      | exact deci_form_dec.mono _ _ _ _
      | exact LeO.none _
      | refine LeO.ite ?_ ?_
      | refine LeO.bind ?_ (fun _ => ?_)
    · intro y0 y1 y2 y3
      unfold deci_Parse.j1
      repeat' first
      | (with_reducible exact ih0 _ _ _ _)
      | (with_reducible exact ih1 _ _ _ _)
      | (with_reducible exact deci_form_dec.mono _ _ _ _)
      | (with_reducible exact LeO.refl _)
      | (with_reducible exact LeO.none _)
      | (with_reducible refine LeO.ite ?_ ?_)
      | (with_reducible refine LeO.bind ?_ (fun _ => ?_))
      | exact ih0 _ _ _ _
      | exact ih1 _ _ _ _
      | exact deci_form_dec.mono _ _ _ _
      | exact LeO.none _
      | refine LeO.ite ?_ ?_
      | refine LeO.bind ?_ (fun _ => ?_)
theorem deci_Parse.mono : ∀ a0 k, LeO (deci_Parse.f k a0) (deci_Parse.f (k + 1) a0) := by
  intro a0 k
  obtain ⟨ih0, ih1⟩ := deci_Parse.mono_l k
  unfold deci_Parse.f
  repeat' first
      | (with_reducible exact ih0 _ _ _ _)
      | (with_reducible exact ih1 _ _ _ _)
      | (with_reducible exact deci_form_dec.mono _ _ _ _)
      | (with_reducible exact LeO.refl _)
      | (with_reducible exact LeO.none _)
      | (with_reducible refine LeO.ite ?_ ?_)
      | (with_reducible refine LeO.bind ?_ (fun _ => ?_))
      | exact ih0 _ _ _ _
      | exact ih1 _ _ _ _
      | exact deci_form_dec.mono _ _ _ _
      | exact LeO.none _
      | refine LeO.ite ?_ ?_
      | refine LeO.bind ?_ (fun _ => ?_)
set_option maxHeartbeats 8000000 in
set_option maxRecDepth 100000 in
theorem deci_Parse.calls (k : Nat) (a0 : ByteArray) (r1 : Int) (r2 : Int) (r3 : Int) (w : World) (h : deci_Parse.f k a0 = some (r1, r2, r3)) :
    Calls Tryd.prog 18 #[.string a0] w fun e w' => e = .returned (.tuple #[.agg #[.int .i64 r1, .int .i64 r2], .int .i64 r3]) ∧ Below w.heap.size w w' := by
  have hu23 := Tryd.underlying23
  have hu46 := Tryd.underlying46
  have HB := Aside0.mk (Below.refl w.heap.size w)
  have H : ((strings_CutPrefix.f a0 (⟨#[45]⟩ : ByteArray)).bind fun bt155 => ((strings_Cut.f bt155.1 (⟨#[46]⟩ : ByteArray)).bind fun bt157 => ((deci_digits.f bt157.1).bind fun t160 => (if t160 = true then (if bt157.2.2 = true then ((deci_digits.f bt157.2.1).bind fun t161 => (if t161 = true then (if (bt157.1.size : Int) > 1 then (if 0 < (bt157.1.size : Int) then (deci_Parse.j0 k bt155.2 bt157.1 bt157.2.1 ((bt bt157.1 0) == 48)) else (none)) else (deci_Parse.j0 k bt155.2 bt157.1 bt157.2.1 false)) else (deci_Parse.j0 k bt155.2 bt157.1 bt157.2.1 true))) else (if (bt157.1.size : Int) > 1 then (if 0 < (bt157.1.size : Int) then (deci_Parse.j0 k bt155.2 bt157.1 bt157.2.1 ((bt bt157.1 0) == 48)) else (none)) else (deci_Parse.j0 k bt155.2 bt157.1 bt157.2.1 false))) else (deci_Parse.j0 k bt155.2 bt157.1 bt157.2.1 true))))) = some (r1, r2, r3) := h
  clear h
  replace H := Option.bind_eq_some_iff.mp H
  obtain ⟨⟨t155, t156⟩, A20, H⟩ := H
  replace H : ((strings_Cut.f t155 (⟨#[46]⟩ : ByteArray)).bind fun bt157 => ((deci_digits.f bt157.1).bind fun t160 => (if t160 = true then (if bt157.2.2 = true then ((deci_digits.f bt157.2.1).bind fun t161 => (if t161 = true then (if (bt157.1.size : Int) > 1 then (if 0 < (bt157.1.size : Int) then (deci_Parse.j0 k t156 bt157.1 bt157.2.1 ((bt bt157.1 0) == 48)) else (none)) else (deci_Parse.j0 k t156 bt157.1 bt157.2.1 false)) else (deci_Parse.j0 k t156 bt157.1 bt157.2.1 true))) else (if (bt157.1.size : Int) > 1 then (if 0 < (bt157.1.size : Int) then (deci_Parse.j0 k t156 bt157.1 bt157.2.1 ((bt bt157.1 0) == 48)) else (none)) else (deci_Parse.j0 k t156 bt157.1 bt157.2.1 false))) else (deci_Parse.j0 k t156 bt157.1 bt157.2.1 true)))) = some (r1, r2, r3) := H
  have A2 := Aside0.mk A20
  clear A20
  replace H := Option.bind_eq_some_iff.mp H
  obtain ⟨⟨t157, t158, t159⟩, A30, H⟩ := H
  replace H : ((deci_digits.f t157).bind fun t160 => (if t160 = true then (if t159 = true then ((deci_digits.f t158).bind fun t161 => (if t161 = true then (if (t157.size : Int) > 1 then (if 0 < (t157.size : Int) then (deci_Parse.j0 k t156 t157 t158 ((bt t157 0) == 48)) else (none)) else (deci_Parse.j0 k t156 t157 t158 false)) else (deci_Parse.j0 k t156 t157 t158 true))) else (if (t157.size : Int) > 1 then (if 0 < (t157.size : Int) then (deci_Parse.j0 k t156 t157 t158 ((bt t157 0) == 48)) else (none)) else (deci_Parse.j0 k t156 t157 t158 false))) else (deci_Parse.j0 k t156 t157 t158 true))) = some (r1, r2, r3) := H
  have A3 := Aside0.mk A30
  clear A30
  have HC4 := Aside0.mk H
  clear H
  go_enter Tryd.func18, Tryd.ntmps18
  go_upto_region 3 with (first | ((with_reducible refine gate_dst (N := 2) rfl ?_); (try (refine gate_guard (by rfl) ?_; dsimp only)); refine box_event ?hg (N := 2) ?hd (cs := #[.int .i64 0, .int .i64 0]) (t := 23) ?hr ?_; (case hd => rfl); (case hg => rfl); (case hr => first | (go_simp; done) | (go_simp; rfl)); intro gb154 hg w5 hbox hb; have n0_ := Aside0.mk (below_step (by repeat (first | (with_reducible first | exact HB.out | apply below_alloc | apply pw_below_drewN | apply below_drew1) | exact HB.out)) hb); have n1_ := Aside0.mk (hbox); have n2_ := Aside0.mk ((by rw [hg]; exact (below_size (by repeat (first | (with_reducible first | exact HB.out | apply below_alloc | apply pw_below_drewN | apply below_drew1) | exact HB.out))) : w.heap.size ≤ gb154)); have n3_ := Aside0.mk ((by rw [hg]; exact (below_size (by repeat (first | (with_reducible first | exact HB.out | apply below_alloc | apply pw_below_drewN | apply below_drew1) | exact HB.out))) : w.heap.size ≤ gb154)); clear HB; have HB := n0_; have BK154 := n1_; have GW154 := n2_; have GE154 := n3_; clear n0_ n1_ n2_ n3_; clear hb hbox hg) | ((with_reducible refine gate_callee (f := 37) rfl ?_); refine goesL_ (some 13) rfl rfl Tryd.func37 (by kernel_rfl) rfl #[.string a0, .string (⟨#[45]⟩ : ByteArray)] rfl (by (try simp only [List.map_toArray, List.map_cons, List.map_nil]); first | done | rfl | (simp only [List.length_drop, List.length_take]; rfl)) ?_; (with_reducible refine (strings_CutPrefix.calls a0 (⟨#[45]⟩ : ByteArray) t155 t156 _ A2.out).mono ?_); rintro e w' ⟨rfl, ⟨nd, rfl⟩⟩; refine ⟨_, rfl, ?_⟩) | ((with_reducible refine gate_callee (f := 38) rfl ?_); refine goesL_ (some 18) rfl rfl Tryd.func38 (by kernel_rfl) rfl #[.string t155, .string (⟨#[46]⟩ : ByteArray)] rfl (by (try simp only [List.map_toArray, List.map_cons, List.map_nil]); first | done | rfl | (simp only [List.length_drop, List.length_take]; rfl)) ?_; (with_reducible refine (strings_Cut.calls t155 (⟨#[46]⟩ : ByteArray) t157 t158 t159 _ A3.out).mono ?_); rintro e w' ⟨rfl, ⟨nd, rfl⟩⟩; refine ⟨_, rfl, ?_⟩))
  (try simp only [Act.put, List.setIfInBounds_toArray, List.set_cons_zero, List.set_cons_succ])
  go_cut [42] (fun v42 wc => ∃ (kq : Nat) (x42_3 : Bool), v42 = .bool x42_3 ∧ Aside0 (deci_Parse.j0 kq t156 t157 t158 x42_3 = some (r1, r2, r3)) ∧ Aside0 (kq ≤ k) ∧ Aside0 (wc.heap[gb154]? = some (.cells #[.int .i64 0, .int .i64 0] 23 (0, 0))) ∧ Aside0 (Below w.heap.size w wc))
  case first =>
    have H := HC4.out
    clear HC4
    replace H := Option.bind_eq_some_iff.mp H
    obtain ⟨t160, A60, H⟩ := H
    replace H : (if t160 = true then (if t159 = true then ((deci_digits.f t158).bind fun t161 => (if t161 = true then (if (t157.size : Int) > 1 then (if 0 < (t157.size : Int) then (deci_Parse.j0 k t156 t157 t158 ((bt t157 0) == 48)) else (none)) else (deci_Parse.j0 k t156 t157 t158 false)) else (deci_Parse.j0 k t156 t157 t158 true))) else (if (t157.size : Int) > 1 then (if 0 < (t157.size : Int) then (deci_Parse.j0 k t156 t157 t158 ((bt t157 0) == 48)) else (none)) else (deci_Parse.j0 k t156 t157 t158 false))) else (deci_Parse.j0 k t156 t157 t158 true)) = some (r1, r2, r3) := H
    have A6 := Aside0.mk A60
    clear A60
    by_cases c7 : t160 = true
    · subst c7
      have H1 : (if t159 = true then ((deci_digits.f t158).bind fun t161 => (if t161 = true then (if (t157.size : Int) > 1 then (if 0 < (t157.size : Int) then (deci_Parse.j0 k t156 t157 t158 ((bt t157 0) == 48)) else (none)) else (deci_Parse.j0 k t156 t157 t158 false)) else (deci_Parse.j0 k t156 t157 t158 true))) else (if (t157.size : Int) > 1 then (if 0 < (t157.size : Int) then (deci_Parse.j0 k t156 t157 t158 ((bt t157 0) == 48)) else (none)) else (deci_Parse.j0 k t156 t157 t158 false))) = some (r1, r2, r3) := by rw [if_pos rfl] at H; exact H
      clear H
      have H := H1
      clear H1
      by_cases c8 : t159 = true
      · subst c8
        have H1 : ((deci_digits.f t158).bind fun t161 => (if t161 = true then (if (t157.size : Int) > 1 then (if 0 < (t157.size : Int) then (deci_Parse.j0 k t156 t157 t158 ((bt t157 0) == 48)) else (none)) else (deci_Parse.j0 k t156 t157 t158 false)) else (deci_Parse.j0 k t156 t157 t158 true))) = some (r1, r2, r3) := by rw [if_pos rfl] at H; exact H
        clear H
        have H := H1
        clear H1
        replace H := Option.bind_eq_some_iff.mp H
        obtain ⟨t161, A90, H⟩ := H
        replace H : (if t161 = true then (if (t157.size : Int) > 1 then (if 0 < (t157.size : Int) then (deci_Parse.j0 k t156 t157 t158 ((bt t157 0) == 48)) else (none)) else (deci_Parse.j0 k t156 t157 t158 false)) else (deci_Parse.j0 k t156 t157 t158 true)) = some (r1, r2, r3) := H
        have A9 := Aside0.mk A90
        clear A90
        by_cases c10 : t161 = true
        · subst c10
          have H1 : (if (t157.size : Int) > 1 then (if 0 < (t157.size : Int) then (deci_Parse.j0 k t156 t157 t158 ((bt t157 0) == 48)) else (none)) else (deci_Parse.j0 k t156 t157 t158 false)) = some (r1, r2, r3) := by rw [if_pos rfl] at H; exact H
          clear H
          have H := H1
          clear H1
          by_cases c11 : (t157.size : Int) > 1
          · rw [if_pos c11] at H
            have c11b0 : decide (1 < (t157.size : Int)) = true := decide_eq_true c11
            have c11b1 : decide (1 < t157.size) = true := decide_eq_true (by omega)
            clear c11
            (first | rw [c11b0] | (simp only [i64_w, i32_w]; rw [c11b0]) | skip)
            by_cases c12 : 0 < (t157.size : Int)
            · rw [if_pos c12] at H
              have c12b0 : decide (0 < (t157.size : Int)) = true := decide_eq_true c12
              have c12b1 : decide (0 < t157.size) = true := decide_eq_true (by omega)
              clear c12
              have H' := Aside0.mk H
              clear H
              go_wp2_with (first | ((with_reducible refine gate_callee (f := 39) rfl ?_); refine goesL_ (some 23) rfl rfl Tryd.func39 (by kernel_rfl) rfl #[.string t157] rfl (by (try simp only [List.map_toArray, List.map_cons, List.map_nil]); first | done | rfl | (simp only [List.length_drop, List.length_take]; rfl)) ?_; (with_reducible refine (deci_digits.calls t157 true _ A6.out).mono ?_); rintro e w14 ⟨rfl, hb⟩; refine ⟨_, rfl, ?_⟩; have n0_ := Aside0.mk (blk_below (g := gb154) (o := .cells #[.int .i64 0, .int .i64 0] 23 (0, 0)) (by (with_reducible repeat (first | refine blk_drewN ?_ _ | refine blk_drew ?_ | refine blk_alloc ?_ _)); exact BK154.out) hb); have n1_ := Aside0.mk (below_step (by repeat (first | (with_reducible first | exact HB.out | apply below_alloc | apply pw_below_drewN | apply below_drew1 | refine below_set ?_ GE154.out) | exact HB.out)) hb); clear BK154; clear HB; have BK154 := n0_; have HB := n1_; clear n0_ n1_; (try clear hb); (try clear hb2); (try clear hk); (try clear hi)) | (go_at_call 39; (with_reducible refine (deci_digits.calls t158 true _ A9.out).mono ?_); rintro e w15 ⟨rfl, hb⟩; have n0_ := Aside0.mk (blk_below (g := gb154) (o := .cells #[.int .i64 0, .int .i64 0] 23 (0, 0)) (by (with_reducible repeat (first | refine blk_drewN ?_ _ | refine blk_drew ?_ | refine blk_alloc ?_ _)); exact BK154.out) hb); have n1_ := Aside0.mk (below_step (by repeat (first | (with_reducible first | exact HB.out | apply below_alloc | apply pw_below_drewN | apply below_drew1 | refine below_set ?_ GE154.out) | exact HB.out)) hb); clear BK154; clear HB; have BK154 := n0_; have HB := n1_; clear n0_ n1_; (try clear hb); (try clear hb2); (try clear hk); (try clear hi); have p13 : 0 ≤ (0 : Int) := (by omega); have q13 : 0 < t157.size := (by have : (0 : Int) < (t157.size : Int) := of_decide_eq_true (by first | (with_reducible assumption) | assumption); omega); have hx13 : ∀ h : 0 < t157.size, ((t157[0]'h).toNat : Int) = bt t157 0 := bt_at t157 0; clear p13; have qi13 : (0 < (t157.size : Int)) = True := eq_true (of_decide_eq_true (by first | (with_reducible assumption) | assumption)); replace q13 := eq_true q13))
              go_meet
              case rel => exact ⟨_, (((bt t157 0) == 48)), (by first | rfl | (simp; done) | (simp [*]; done)), H', ⟨by first | omega | exact Nat.le_refl _⟩, ⟨by (with_reducible repeat (first | refine blk_drewN ?_ _ | refine blk_drew ?_ | refine blk_alloc ?_ _)); exact BK154.out⟩, ⟨by repeat (first | (with_reducible first | exact HB.out | apply below_alloc | apply pw_below_drewN | apply below_drew1 | refine below_set ?_ GE154.out) | exact HB.out)⟩⟩
            · rw [if_neg c12] at H
              exact absurd H (by simp)
          · rw [if_neg c11] at H
            have c11b0 : decide (1 < (t157.size : Int)) = false := decide_eq_false c11
            have c11b1 : decide (1 < t157.size) = false := decide_eq_false (by omega)
            clear c11
            (first | rw [c11b0] | (simp only [i64_w, i32_w]; rw [c11b0]) | skip)
            have H' := Aside0.mk H
            clear H
            go_wp2_with (first | ((with_reducible refine gate_callee (f := 39) rfl ?_); refine goesL_ (some 23) rfl rfl Tryd.func39 (by kernel_rfl) rfl #[.string t157] rfl (by (try simp only [List.map_toArray, List.map_cons, List.map_nil]); first | done | rfl | (simp only [List.length_drop, List.length_take]; rfl)) ?_; (with_reducible refine (deci_digits.calls t157 true _ A6.out).mono ?_); rintro e w16 ⟨rfl, hb⟩; refine ⟨_, rfl, ?_⟩; have n0_ := Aside0.mk (blk_below (g := gb154) (o := .cells #[.int .i64 0, .int .i64 0] 23 (0, 0)) (by (with_reducible repeat (first | refine blk_drewN ?_ _ | refine blk_drew ?_ | refine blk_alloc ?_ _)); exact BK154.out) hb); have n1_ := Aside0.mk (below_step (by repeat (first | (with_reducible first | exact HB.out | apply below_alloc | apply pw_below_drewN | apply below_drew1 | refine below_set ?_ GE154.out) | exact HB.out)) hb); clear BK154; clear HB; have BK154 := n0_; have HB := n1_; clear n0_ n1_; (try clear hb); (try clear hb2); (try clear hk); (try clear hi)) | (go_at_call 39; (with_reducible refine (deci_digits.calls t158 true _ A9.out).mono ?_); rintro e w17 ⟨rfl, hb⟩; have n0_ := Aside0.mk (blk_below (g := gb154) (o := .cells #[.int .i64 0, .int .i64 0] 23 (0, 0)) (by (with_reducible repeat (first | refine blk_drewN ?_ _ | refine blk_drew ?_ | refine blk_alloc ?_ _)); exact BK154.out) hb); have n1_ := Aside0.mk (below_step (by repeat (first | (with_reducible first | exact HB.out | apply below_alloc | apply pw_below_drewN | apply below_drew1 | refine below_set ?_ GE154.out) | exact HB.out)) hb); clear BK154; clear HB; have BK154 := n0_; have HB := n1_; clear n0_ n1_; (try clear hb); (try clear hb2); (try clear hk); (try clear hi)))
            go_meet
            case rel => exact ⟨_, (false), (by first | rfl | (simp; done) | (simp [*]; done)), H', ⟨by first | omega | exact Nat.le_refl _⟩, ⟨by (with_reducible repeat (first | refine blk_drewN ?_ _ | refine blk_drew ?_ | refine blk_alloc ?_ _)); exact BK154.out⟩, ⟨by repeat (first | (with_reducible first | exact HB.out | apply below_alloc | apply pw_below_drewN | apply below_drew1 | refine below_set ?_ GE154.out) | exact HB.out)⟩⟩
        · replace c10 := Bool.eq_false_iff.mpr c10
          subst c10
          have H1 : (deci_Parse.j0 k t156 t157 t158 true) = some (r1, r2, r3) := by rw [if_neg (show ¬ (false = true) by decide)] at H; exact H
          clear H
          have H := H1
          clear H1
          have H' := Aside0.mk H
          clear H
          go_wp2_with (first | ((with_reducible refine gate_callee (f := 39) rfl ?_); refine goesL_ (some 23) rfl rfl Tryd.func39 (by kernel_rfl) rfl #[.string t157] rfl (by (try simp only [List.map_toArray, List.map_cons, List.map_nil]); first | done | rfl | (simp only [List.length_drop, List.length_take]; rfl)) ?_; (with_reducible refine (deci_digits.calls t157 true _ A6.out).mono ?_); rintro e w18 ⟨rfl, hb⟩; refine ⟨_, rfl, ?_⟩; have n0_ := Aside0.mk (blk_below (g := gb154) (o := .cells #[.int .i64 0, .int .i64 0] 23 (0, 0)) (by (with_reducible repeat (first | refine blk_drewN ?_ _ | refine blk_drew ?_ | refine blk_alloc ?_ _)); exact BK154.out) hb); have n1_ := Aside0.mk (below_step (by repeat (first | (with_reducible first | exact HB.out | apply below_alloc | apply pw_below_drewN | apply below_drew1 | refine below_set ?_ GE154.out) | exact HB.out)) hb); clear BK154; clear HB; have BK154 := n0_; have HB := n1_; clear n0_ n1_; (try clear hb); (try clear hb2); (try clear hk); (try clear hi)) | (go_at_call 39; (with_reducible refine (deci_digits.calls t158 false _ A9.out).mono ?_); rintro e w19 ⟨rfl, hb⟩; have n0_ := Aside0.mk (blk_below (g := gb154) (o := .cells #[.int .i64 0, .int .i64 0] 23 (0, 0)) (by (with_reducible repeat (first | refine blk_drewN ?_ _ | refine blk_drew ?_ | refine blk_alloc ?_ _)); exact BK154.out) hb); have n1_ := Aside0.mk (below_step (by repeat (first | (with_reducible first | exact HB.out | apply below_alloc | apply pw_below_drewN | apply below_drew1 | refine below_set ?_ GE154.out) | exact HB.out)) hb); clear BK154; clear HB; have BK154 := n0_; have HB := n1_; clear n0_ n1_; (try clear hb); (try clear hb2); (try clear hk); (try clear hi)))
          go_meet
          case rel => exact ⟨_, (true), (by first | rfl | (simp; done) | (simp [*]; done)), H', ⟨by first | omega | exact Nat.le_refl _⟩, ⟨by (with_reducible repeat (first | refine blk_drewN ?_ _ | refine blk_drew ?_ | refine blk_alloc ?_ _)); exact BK154.out⟩, ⟨by repeat (first | (with_reducible first | exact HB.out | apply below_alloc | apply pw_below_drewN | apply below_drew1 | refine below_set ?_ GE154.out) | exact HB.out)⟩⟩
      · replace c8 := Bool.eq_false_iff.mpr c8
        subst c8
        have H1 : (if (t157.size : Int) > 1 then (if 0 < (t157.size : Int) then (deci_Parse.j0 k t156 t157 t158 ((bt t157 0) == 48)) else (none)) else (deci_Parse.j0 k t156 t157 t158 false)) = some (r1, r2, r3) := by rw [if_neg (show ¬ (false = true) by decide)] at H; exact H
        clear H
        have H := H1
        clear H1
        by_cases c20 : (t157.size : Int) > 1
        · rw [if_pos c20] at H
          have c20b0 : decide (1 < (t157.size : Int)) = true := decide_eq_true c20
          have c20b1 : decide (1 < t157.size) = true := decide_eq_true (by omega)
          clear c20
          by_cases c21 : 0 < (t157.size : Int)
          · rw [if_pos c21] at H
            have c21b0 : decide (0 < (t157.size : Int)) = true := decide_eq_true c21
            have c21b1 : decide (0 < t157.size) = true := decide_eq_true (by omega)
            clear c21
            have H' := Aside0.mk H
            clear H
            go_wp2_with (first | ((with_reducible refine gate_callee (f := 39) rfl ?_); refine goesL_ (some 23) rfl rfl Tryd.func39 (by kernel_rfl) rfl #[.string t157] rfl (by (try simp only [List.map_toArray, List.map_cons, List.map_nil]); first | done | rfl | (simp only [List.length_drop, List.length_take]; rfl)) ?_; (with_reducible refine (deci_digits.calls t157 true _ A6.out).mono ?_); rintro e w23 ⟨rfl, hb⟩; refine ⟨_, rfl, ?_⟩; have n0_ := Aside0.mk (blk_below (g := gb154) (o := .cells #[.int .i64 0, .int .i64 0] 23 (0, 0)) (by (with_reducible repeat (first | refine blk_drewN ?_ _ | refine blk_drew ?_ | refine blk_alloc ?_ _)); exact BK154.out) hb); have n1_ := Aside0.mk (below_step (by repeat (first | (with_reducible first | exact HB.out | apply below_alloc | apply pw_below_drewN | apply below_drew1 | refine below_set ?_ GE154.out) | exact HB.out)) hb); clear BK154; clear HB; have BK154 := n0_; have HB := n1_; clear n0_ n1_; (try clear hb); (try clear hb2); (try clear hk); (try clear hi); have p22 : 0 ≤ (0 : Int) := (by omega); have q22 : 0 < t157.size := (by have : (0 : Int) < (t157.size : Int) := of_decide_eq_true (by first | (with_reducible assumption) | assumption); omega); have hx22 : ∀ h : 0 < t157.size, ((t157[0]'h).toNat : Int) = bt t157 0 := bt_at t157 0; clear p22; have qi22 : (0 < (t157.size : Int)) = True := eq_true (of_decide_eq_true (by first | (with_reducible assumption) | assumption)); replace q22 := eq_true q22))
            go_meet
            case rel => exact ⟨_, (((bt t157 0) == 48)), (by first | rfl | (simp; done) | (simp [*]; done)), H', ⟨by first | omega | exact Nat.le_refl _⟩, ⟨by (with_reducible repeat (first | refine blk_drewN ?_ _ | refine blk_drew ?_ | refine blk_alloc ?_ _)); exact BK154.out⟩, ⟨by repeat (first | (with_reducible first | exact HB.out | apply below_alloc | apply pw_below_drewN | apply below_drew1 | refine below_set ?_ GE154.out) | exact HB.out)⟩⟩
          · rw [if_neg c21] at H
            exact absurd H (by simp)
        · rw [if_neg c20] at H
          have c20b0 : decide (1 < (t157.size : Int)) = false := decide_eq_false c20
          have c20b1 : decide (1 < t157.size) = false := decide_eq_false (by omega)
          clear c20
          have H' := Aside0.mk H
          clear H
          go_wp2_with (first | ((with_reducible refine gate_callee (f := 39) rfl ?_); refine goesL_ (some 23) rfl rfl Tryd.func39 (by kernel_rfl) rfl #[.string t157] rfl (by (try simp only [List.map_toArray, List.map_cons, List.map_nil]); first | done | rfl | (simp only [List.length_drop, List.length_take]; rfl)) ?_; (with_reducible refine (deci_digits.calls t157 true _ A6.out).mono ?_); rintro e w24 ⟨rfl, hb⟩; refine ⟨_, rfl, ?_⟩; have n0_ := Aside0.mk (blk_below (g := gb154) (o := .cells #[.int .i64 0, .int .i64 0] 23 (0, 0)) (by (with_reducible repeat (first | refine blk_drewN ?_ _ | refine blk_drew ?_ | refine blk_alloc ?_ _)); exact BK154.out) hb); have n1_ := Aside0.mk (below_step (by repeat (first | (with_reducible first | exact HB.out | apply below_alloc | apply pw_below_drewN | apply below_drew1 | refine below_set ?_ GE154.out) | exact HB.out)) hb); clear BK154; clear HB; have BK154 := n0_; have HB := n1_; clear n0_ n1_; (try clear hb); (try clear hb2); (try clear hk); (try clear hi)))
          go_meet
          case rel => exact ⟨_, (false), (by first | rfl | (simp; done) | (simp [*]; done)), H', ⟨by first | omega | exact Nat.le_refl _⟩, ⟨by (with_reducible repeat (first | refine blk_drewN ?_ _ | refine blk_drew ?_ | refine blk_alloc ?_ _)); exact BK154.out⟩, ⟨by repeat (first | (with_reducible first | exact HB.out | apply below_alloc | apply pw_below_drewN | apply below_drew1 | refine below_set ?_ GE154.out) | exact HB.out)⟩⟩
    · replace c7 := Bool.eq_false_iff.mpr c7
      subst c7
      have H1 : (deci_Parse.j0 k t156 t157 t158 true) = some (r1, r2, r3) := by rw [if_neg (show ¬ (false = true) by decide)] at H; exact H
      clear H
      have H := H1
      clear H1
      have H' := Aside0.mk H
      clear H
      go_wp2_with (first | ((with_reducible refine gate_callee (f := 39) rfl ?_); refine goesL_ (some 23) rfl rfl Tryd.func39 (by kernel_rfl) rfl #[.string t157] rfl (by (try simp only [List.map_toArray, List.map_cons, List.map_nil]); first | done | rfl | (simp only [List.length_drop, List.length_take]; rfl)) ?_; (with_reducible refine (deci_digits.calls t157 false _ A6.out).mono ?_); rintro e w25 ⟨rfl, hb⟩; refine ⟨_, rfl, ?_⟩; have n0_ := Aside0.mk (blk_below (g := gb154) (o := .cells #[.int .i64 0, .int .i64 0] 23 (0, 0)) (by (with_reducible repeat (first | refine blk_drewN ?_ _ | refine blk_drew ?_ | refine blk_alloc ?_ _)); exact BK154.out) hb); have n1_ := Aside0.mk (below_step (by repeat (first | (with_reducible first | exact HB.out | apply below_alloc | apply pw_below_drewN | apply below_drew1 | refine below_set ?_ GE154.out) | exact HB.out)) hb); clear BK154; clear HB; have BK154 := n0_; have HB := n1_; clear n0_ n1_; (try clear hb); (try clear hb2); (try clear hk); (try clear hi)))
      go_meet
      case rel => exact ⟨_, (true), (by first | rfl | (simp; done) | (simp [*]; done)), H', ⟨by first | omega | exact Nat.le_refl _⟩, ⟨by (with_reducible repeat (first | refine blk_drewN ?_ _ | refine blk_drew ?_ | refine blk_alloc ?_ _)); exact BK154.out⟩, ⟨by repeat (first | (with_reducible first | exact HB.out | apply below_alloc | apply pw_below_drewN | apply below_drew1 | refine below_set ?_ GE154.out) | exact HB.out)⟩⟩
  case rest =>
    clear HC4
    try clear c1
    try clear p1
    try clear q1
    try clear hx1
    try clear qi1
    try clear c2
    try clear p2
    try clear q2
    try clear hx2
    try clear qi2
    try clear c3
    try clear c7
    try clear c8
    try clear c10
    try clear c11
    try clear c11b0
    try clear c11b1
    try clear c12
    try clear c12b0
    try clear c12b1
    try clear p13
    try clear q13
    try clear hx13
    try clear qi13
    try clear c18
    try clear c20
    try clear c20b0
    try clear c20b1
    try clear c21
    try clear c21b0
    try clear c21b1
    try clear p22
    try clear q22
    try clear hx22
    try clear qi22
    try clear p13
    try clear p22
    try clear q13
    try clear q22
    obtain ⟨kq, x42_3, rfl, HA, HJ3, BK154, HB⟩ := hcut
    cases kq with
    | zero => exact absurd HA.out (by simp [deci_Parse.j0])
    | succ kj3 =>
      have H := HA.out
      clear HA
      simp only [deci_Parse.j0] at H
      by_cases c26 : x42_3 = true
      · subst c26
        have H1 : (some (0, 0, 5)) = some (r1, r2, r3) := by rw [if_pos rfl] at H; exact H
        clear H
        have H := H1
        clear H1
        simp only [Option.some.injEq, Prod.mk.injEq] at H
        obtain ⟨rfl, rfl, rfl⟩ := H
        have hcz27_0 : wc.cell? ⟨gb154, 0, none⟩ = some (.int .i64 0) := (blk_cell BK154.out 0).trans rfl
        have hcz27_1 : wc.cell? ⟨gb154, 1, none⟩ = some (.int .i64 0) := (blk_cell BK154.out 1).trans rfl
        have hfz27_0 := blk_frozen BK154.out 0
        have hfz27_1 := blk_frozen BK154.out 1
        go_wp2
        refine bodyPost_ret (results_ct rfl _ _ gb154 23 #[.int .i64 0, .int .i64 0] (0, 0) _ rfl (by (with_reducible repeat (first | refine blk_drewN ?_ _ | refine blk_drew ?_ | refine blk_alloc ?_ _)); refine blk_put (cs := #[.int .i64 0, .int .i64 0]) ?_ 1 _ rfl; (with_reducible repeat (first | refine blk_drewN ?_ _ | refine blk_drew ?_ | refine blk_alloc ?_ _)); refine blk_put (cs := #[.int .i64 0, .int .i64 0]) ?_ 0 _ rfl; (with_reducible repeat (first | refine blk_drewN ?_ _ | refine blk_drew ?_ | refine blk_alloc ?_ _)); exact BK154.out) Tryd.underlying23 rfl (by kernel_rfl)) rfl ?_
        exact ⟨by first | rfl | (simp [errW_none, errW_some] <;> rfl) | (simp [*, errW_none, errW_some] <;> rfl), by repeat (first | (with_reducible first | exact HB.out | apply below_alloc | apply pw_below_drewN | apply below_drew1 | refine below_set ?_ GE154.out) | exact HB.out)⟩
      · replace c26 := Bool.eq_false_iff.mpr c26
        subst c26
        have H1 : ((strings_TrimRight.f t158 (⟨#[48]⟩ : ByteArray)).bind fun t162 => (if (t162.size : Int) > 6 then (deci_Parse.j1 kj3 t156 t157 t162 true) else (deci_Parse.j1 kj3 t156 t157 t162 (decide ((t157.size : Int) > 12))))) = some (r1, r2, r3) := by rw [if_neg (show ¬ (false = true) by decide)] at H; exact H
        clear H
        have H := H1
        clear H1
        replace H := Option.bind_eq_some_iff.mp H
        obtain ⟨t162, A280, H⟩ := H
        replace H : (if (t162.size : Int) > 6 then (deci_Parse.j1 kj3 t156 t157 t162 true) else (deci_Parse.j1 kj3 t156 t157 t162 (decide ((t157.size : Int) > 12)))) = some (r1, r2, r3) := H
        have A28 := Aside0.mk A280
        clear A280
        have HC29 := Aside0.mk H
        clear H
        go_upto_region 6 with (first | ((with_reducible refine gate_callee (f := 40) rfl ?_); refine goesL_ (some 45) rfl rfl Tryd.func40 (by kernel_rfl) rfl #[.string t158, .string (⟨#[48]⟩ : ByteArray)] rfl (by (try simp only [List.map_toArray, List.map_cons, List.map_nil]); first | done | rfl | (simp only [List.length_drop, List.length_take]; rfl)) ?_; (with_reducible refine (strings_TrimRight.calls t158 (⟨#[48]⟩ : ByteArray) t162 _ A28.out).mono ?_); rintro e w30 ⟨rfl, hb⟩; refine ⟨_, rfl, ?_⟩; have n0_ := Aside0.mk (blk_below (g := gb154) (o := .cells #[.int .i64 0, .int .i64 0] 23 (0, 0)) (by (with_reducible repeat (first | refine blk_drewN ?_ _ | refine blk_drew ?_ | refine blk_alloc ?_ _)); exact BK154.out) hb); have n1_ := Aside0.mk (below_step (by repeat (first | (with_reducible first | exact HB.out | apply below_alloc | apply pw_below_drewN | apply below_drew1 | refine below_set ?_ GE154.out) | exact HB.out)) hb); clear BK154; clear HB; have BK154 := n0_; have HB := n1_; clear n0_ n1_; (try clear hb); (try clear hb2); (try clear hk); (try clear hi)))
        (try simp only [Act.put, List.setIfInBounds_toArray, List.set_cons_zero, List.set_cons_succ])
        go_cut [53] (fun v53 wc => ∃ (kq : Nat) (x53_28 : Bool), v53 = .bool x53_28 ∧ Aside0 (deci_Parse.j1 kq t156 t157 t162 x53_28 = some (r1, r2, r3)) ∧ Aside0 (kq ≤ kj3) ∧ Aside0 (wc.heap[gb154]? = some (.cells #[.int .i64 0, .int .i64 0] 23 (0, 0))) ∧ Aside0 (Below w.heap.size w wc))
        case first =>
          have H := HC29.out
          clear HC29
          by_cases c31 : (t162.size : Int) > 6
          · rw [if_pos c31] at H
            have c31b0 : decide (6 < (t162.size : Int)) = true := decide_eq_true c31
            have c31b1 : decide (6 < t162.size) = true := decide_eq_true (by omega)
            clear c31
            (first | rw [c31b0] | (simp only [i64_w, i32_w]; rw [c31b0]) | skip)
            have H' := Aside0.mk H
            clear H
            go_wp2
            go_meet
            case rel => exact ⟨_, (true), (by first | rfl | (simp; done) | (simp [*]; done)), H', ⟨by have := HJ3.out; first | omega | exact Nat.le_refl _⟩, ⟨by (with_reducible repeat (first | refine blk_drewN ?_ _ | refine blk_drew ?_ | refine blk_alloc ?_ _)); exact BK154.out⟩, ⟨by repeat (first | (with_reducible first | exact HB.out | apply below_alloc | apply pw_below_drewN | apply below_drew1 | refine below_set ?_ GE154.out) | exact HB.out)⟩⟩
          · rw [if_neg c31] at H
            have c31b0 : decide (6 < (t162.size : Int)) = false := decide_eq_false c31
            have c31b1 : decide (6 < t162.size) = false := decide_eq_false (by omega)
            clear c31
            (first | rw [c31b0] | (simp only [i64_w, i32_w]; rw [c31b0]) | skip)
            have H' := Aside0.mk H
            clear H
            go_wp2
            go_meet
            case rel => exact ⟨_, (decide ((t157.size : Int) > 12)), (by first | rfl | (simp; done) | (simp [*]; done)), H', ⟨by have := HJ3.out; first | omega | exact Nat.le_refl _⟩, ⟨by (with_reducible repeat (first | refine blk_drewN ?_ _ | refine blk_drew ?_ | refine blk_alloc ?_ _)); exact BK154.out⟩, ⟨by repeat (first | (with_reducible first | exact HB.out | apply below_alloc | apply pw_below_drewN | apply below_drew1 | refine below_set ?_ GE154.out) | exact HB.out)⟩⟩
        case rest =>
          clear HC29
          try clear c1
          try clear p1
          try clear q1
          try clear hx1
          try clear qi1
          try clear c2
          try clear p2
          try clear q2
          try clear hx2
          try clear qi2
          try clear c3
          try clear c4
          try clear c7
          try clear c8
          try clear c10
          try clear c11
          try clear c11b0
          try clear c11b1
          try clear c12
          try clear c12b0
          try clear c12b1
          try clear p13
          try clear q13
          try clear hx13
          try clear qi13
          try clear c18
          try clear c20
          try clear c20b0
          try clear c20b1
          try clear c21
          try clear c21b0
          try clear c21b1
          try clear p22
          try clear q22
          try clear hx22
          try clear qi22
          try clear c26
          try clear c31
          try clear c31b0
          try clear c31b1
          try clear hcz27_0
          try clear hcz27_1
          try clear hfz27_0
          try clear hfz27_1
          try clear p1
          try clear p13
          try clear p2
          try clear p22
          try clear q1
          try clear q13
          try clear q2
          try clear q22
          obtain ⟨kq, x53_28, rfl, HA, HJ28, BK154, HB⟩ := hcut
          cases kq with
          | zero => exact absurd HA.out (by simp [deci_Parse.j1])
          | succ kj28 =>
            have H := HA.out
            clear HA
            simp only [deci_Parse.j1] at H
            by_cases c32 : x53_28 = true
            · subst c32
              have H1 : (some (0, 0, 3)) = some (r1, r2, r3) := by rw [if_pos rfl] at H; exact H
              clear H
              have H := H1
              clear H1
              simp only [Option.some.injEq, Prod.mk.injEq] at H
              obtain ⟨rfl, rfl, rfl⟩ := H
              have hcz33_0 : wc.cell? ⟨gb154, 0, none⟩ = some (.int .i64 0) := (blk_cell BK154.out 0).trans rfl
              have hcz33_1 : wc.cell? ⟨gb154, 1, none⟩ = some (.int .i64 0) := (blk_cell BK154.out 1).trans rfl
              have hfz33_0 := blk_frozen BK154.out 0
              have hfz33_1 := blk_frozen BK154.out 1
              go_wp2
              refine bodyPost_ret (results_ct rfl _ _ gb154 23 #[.int .i64 0, .int .i64 0] (0, 0) _ rfl (by (with_reducible repeat (first | refine blk_drewN ?_ _ | refine blk_drew ?_ | refine blk_alloc ?_ _)); refine blk_put (cs := #[.int .i64 0, .int .i64 0]) ?_ 1 _ rfl; (with_reducible repeat (first | refine blk_drewN ?_ _ | refine blk_drew ?_ | refine blk_alloc ?_ _)); refine blk_put (cs := #[.int .i64 0, .int .i64 0]) ?_ 0 _ rfl; (with_reducible repeat (first | refine blk_drewN ?_ _ | refine blk_drew ?_ | refine blk_alloc ?_ _)); exact BK154.out) Tryd.underlying23 rfl (by kernel_rfl)) rfl ?_
              exact ⟨by first | rfl | (simp [errW_none, errW_some] <;> rfl) | (simp [*, errW_none, errW_some] <;> rfl), by repeat (first | (with_reducible first | exact HB.out | apply below_alloc | apply pw_below_drewN | apply below_drew1 | refine below_set ?_ GE154.out) | exact HB.out)⟩
            · replace c32 := Bool.eq_false_iff.mpr c32
              subst c32
              have H1 : (if t157.size + t162.size ≤ 9223372036854775807 then ((strconv_ParseUint.f (t157 ++ t162) 10 64).bind fun bt163 => ((deci_form_dec.f kj28 bt163.1 (t162.size : Int) t156).bind fun bt165 => (some (bt165.1, bt165.2.1, bt165.2.2)))) else (none)) = some (r1, r2, r3) := by rw [if_neg (show ¬ (false = true) by decide)] at H; exact H
              clear H
              have H := H1
              clear H1
              by_cases c34 : t157.size + t162.size ≤ 9223372036854775807
              · rw [if_pos c34] at H
                have c34b0 := eq_true c34
                have c34b1 : decide (t157.size + t162.size ≤ 9223372036854775807) = true := decide_eq_true c34
                try have c34b2 : (9223372036854775807 < t157.size + t162.size) = False := eq_false (Nat.not_lt.2 c34)
                replace H := Option.bind_eq_some_iff.mp H
                obtain ⟨⟨t163, t164⟩, A350, H⟩ := H
                replace H : ((deci_form_dec.f kj28 t163 (t162.size : Int) t156).bind fun bt165 => (some (bt165.1, bt165.2.1, bt165.2.2))) = some (r1, r2, r3) := H
                have A35 := Aside0.mk A350
                clear A350
                replace H := Option.bind_eq_some_iff.mp H
                obtain ⟨⟨t165, t166, t167⟩, A360, H⟩ := H
                replace H : (some (t165, t166, t167)) = some (r1, r2, r3) := H
                have A36 := Aside0.mk A360
                clear A360
                simp only [Option.some.injEq, Prod.mk.injEq] at H
                obtain ⟨rfl, rfl, rfl⟩ := H
                go_wp2_with (first | ((with_reducible refine gate_callee (f := 41) rfl ?_); refine goesL_ (some 59) rfl rfl Tryd.func41 (by kernel_rfl) rfl #[.string (t157 ++ t162), .int .i64 10, .int .i64 64] rfl (by (try simp only [List.map_toArray, List.map_cons, List.map_nil]); first | done | rfl | (simp only [List.length_drop, List.length_take]; rfl)) ?_; (with_reducible refine (strconv_ParseUint.calls (t157 ++ t162) 10 64 t163 t164 _ A35.out).mono ?_); rintro e w37 ⟨rfl, hb⟩; refine ⟨_, rfl, ?_⟩; have n0_ := Aside0.mk (blk_below (g := gb154) (o := .cells #[.int .i64 0, .int .i64 0] 23 (0, 0)) (by (with_reducible repeat (first | refine blk_drewN ?_ _ | refine blk_drew ?_ | refine blk_alloc ?_ _)); exact BK154.out) hb); have n1_ := Aside0.mk (below_step (by repeat (first | (with_reducible first | exact HB.out | apply below_alloc | apply pw_below_drewN | apply below_drew1 | refine below_set ?_ GE154.out) | exact HB.out)) hb); clear BK154; clear HB; have BK154 := n0_; have HB := n1_; clear n0_ n1_; (try clear hb); (try clear hb2); (try clear hk); (try clear hi); (try simp only [errW_none, errW_some])) | ((with_reducible refine gate_callee (f := 26) rfl ?_); refine goesL_ (some 67) rfl rfl Tryd.func26 (by kernel_rfl) rfl #[.agg #[.int .u64 t163, .int .i64 (t162.size : Int)], .bool t156] rfl (by (try simp only [List.map_toArray, List.map_cons, List.map_nil]); first | done | rfl | (simp only [List.length_drop, List.length_take]; rfl)) ?_; (with_reducible refine (deci_form_dec.calls kj28 t163 (t162.size : Int) t156 t165 t166 t167 _ A36.out).mono ?_); rintro e w38 ⟨rfl, hb⟩; refine ⟨_, rfl, ?_⟩; have n0_ := Aside0.mk (blk_below (g := gb154) (o := .cells #[.int .i64 0, .int .i64 0] 23 (0, 0)) (by (with_reducible repeat (first | refine blk_drewN ?_ _ | refine blk_drew ?_ | refine blk_alloc ?_ _)); exact BK154.out) hb); have n1_ := Aside0.mk (below_step (by repeat (first | (with_reducible first | exact HB.out | apply below_alloc | apply pw_below_drewN | apply below_drew1 | refine below_set ?_ GE154.out) | exact HB.out)) hb); clear BK154; clear HB; have BK154 := n0_; have HB := n1_; clear n0_ n1_; (try clear hb); (try clear hb2); (try clear hk); (try clear hi); have hcz39_0 : w38.cell? ⟨gb154, 0, none⟩ = some (.int .i64 0) := (blk_cell BK154.out 0).trans rfl; have hcz39_1 : w38.cell? ⟨gb154, 1, none⟩ = some (.int .i64 0) := (blk_cell BK154.out 1).trans rfl; have hfz39_0 := blk_frozen BK154.out 0; have hfz39_1 := blk_frozen BK154.out 1))
                refine bodyPost_ret (results_ct rfl _ _ gb154 23 #[.int .i64 t165, .int .i64 t166] (0, 0) _ rfl (by (with_reducible repeat (first | refine blk_drewN ?_ _ | refine blk_drew ?_ | refine blk_alloc ?_ _)); refine blk_put (cs := #[.int .i64 t165, .int .i64 0]) ?_ 1 _ rfl; (with_reducible repeat (first | refine blk_drewN ?_ _ | refine blk_drew ?_ | refine blk_alloc ?_ _)); refine blk_put (cs := #[.int .i64 0, .int .i64 0]) ?_ 0 _ rfl; (with_reducible repeat (first | refine blk_drewN ?_ _ | refine blk_drew ?_ | refine blk_alloc ?_ _)); exact BK154.out) Tryd.underlying23 rfl (by kernel_rfl)) rfl ?_
                exact ⟨by first | rfl | (simp [errW_none, errW_some] <;> rfl) | (simp [*, errW_none, errW_some] <;> rfl), by repeat (first | (with_reducible first | exact HB.out | apply below_alloc | apply pw_below_drewN | apply below_drew1 | refine below_set ?_ GE154.out) | exact HB.out)⟩
              · rw [if_neg c34] at H
                exact absurd H (by simp)
end Go.Proofs.YtgkemhgihbfmmaaDoor.PA
end
section
namespace Go.Proofs.YtgkemhgihbfmmaaDoor.PA
open Go.RowKit Go.Proofs.YtgkemhgihbfmmaaDoorW.PrintWords Go.Proofs.YtgkemhgihbfmmaaDoorW.PrintLast Go.Proofs.YtgkemhgihbfmmaaDoorW.PrintMore
attribute [local go_sem] max2_int min2_int max_two min_two max_three min_three max_four min_four
set_option linter.unusedVariables false
set_option linter.unusedSimpArgs false
attribute [local go_sem high] eqA23
def soffitlaw01_awake.f (k : Nat)  : Option (Bool) := (deci_Parse.f k (⟨#[49, 50, 46, 53, 48]⟩ : ByteArray)).bind fun bt168 => ((deci_Text.f k bt168.1 bt168.2.1).bind fun bt172 => ((deci_Div.f k 2 0 3 0).bind fun bt174 => (if bt168.2.2 = 0 then (if bt172.2 = 0 then (if bt174.2.2 = 0 then (if bt172.1.toList = ([49, 50, 46, 53] : List UInt8) then (some (bt174.1 == 666667 && (bt174.2.1 == 6))) else (some false)) else (some false)) else (some false)) else (some false))))
theorem soffitlaw01_awake.mono : ∀ k, LeO (soffitlaw01_awake.f k ) (soffitlaw01_awake.f (k + 1) ) := by
  intro  k
  unfold soffitlaw01_awake.f
  repeat' first
      | (with_reducible exact deci_Div.mono _ _ _ _ _)
      | (with_reducible exact deci_Parse.mono _ _)
      | (with_reducible exact deci_Text.mono _ _ _)
      | (with_reducible exact LeO.refl _)
      | (with_reducible exact LeO.none _)
      | (with_reducible refine LeO.ite ?_ ?_)
      | (with_reducible refine LeO.bind ?_ (fun _ => ?_))
      | exact deci_Div.mono _ _ _ _ _
      | exact deci_Parse.mono _ _
      | exact deci_Text.mono _ _ _
      | exact LeO.none _
      | refine LeO.ite ?_ ?_
      | refine LeO.bind ?_ (fun _ => ?_)
set_option maxHeartbeats 8000000 in
set_option maxRecDepth 100000 in
theorem soffitlaw01_awake.calls (k : Nat)  (r : Bool) (w : World) (hT : Tabs w) (h : soffitlaw01_awake.f k  = some r) :
    Calls Tryd.prog 11 #[] w fun e w' => e = .returned (.bool r) ∧ Below w.heap.size w w' := by
  have hu23 := Tryd.underlying23
  have HT := Aside0.mk hT
  clear hT
  have HB := Aside0.mk (Below.refl w.heap.size w)
  have H : ((deci_Parse.f k (⟨#[49, 50, 46, 53, 48]⟩ : ByteArray)).bind fun bt168 => ((deci_Text.f k bt168.1 bt168.2.1).bind fun bt172 => ((deci_Div.f k 2 0 3 0).bind fun bt174 => (if bt168.2.2 = 0 then (if bt172.2 = 0 then (if bt174.2.2 = 0 then (if bt172.1.toList = ([49, 50, 46, 53] : List UInt8) then (some (bt174.1 == 666667 && (bt174.2.1 == 6))) else (some false)) else (some false)) else (some false)) else (some false))))) = some r := h
  clear h
  replace H := Option.bind_eq_some_iff.mp H
  obtain ⟨⟨t168, t169, t170⟩, A10, H⟩ := H
  replace H : ((deci_Text.f k t168 t169).bind fun bt172 => ((deci_Div.f k 2 0 3 0).bind fun bt174 => (if t170 = 0 then (if bt172.2 = 0 then (if bt174.2.2 = 0 then (if bt172.1.toList = ([49, 50, 46, 53] : List UInt8) then (some (bt174.1 == 666667 && (bt174.2.1 == 6))) else (some false)) else (some false)) else (some false)) else (some false)))) = some r := H
  have A1 := Aside0.mk A10
  clear A10
  replace H := Option.bind_eq_some_iff.mp H
  obtain ⟨⟨t172, t173⟩, A20, H⟩ := H
  replace H : ((deci_Div.f k 2 0 3 0).bind fun bt174 => (if t170 = 0 then (if t173 = 0 then (if bt174.2.2 = 0 then (if t172.toList = ([49, 50, 46, 53] : List UInt8) then (some (bt174.1 == 666667 && (bt174.2.1 == 6))) else (some false)) else (some false)) else (some false)) else (some false))) = some r := H
  have A2 := Aside0.mk A20
  clear A20
  replace H := Option.bind_eq_some_iff.mp H
  obtain ⟨⟨t174, t175, t176⟩, A30, H⟩ := H
  replace H : (if t170 = 0 then (if t173 = 0 then (if t176 = 0 then (if t172.toList = ([49, 50, 46, 53] : List UInt8) then (some (t174 == 666667 && (t175 == 6))) else (some false)) else (some false)) else (some false)) else (some false)) = some r := H
  have A3 := Aside0.mk A30
  clear A30
  by_cases c4 : t170 = 0
  · rw [if_pos c4] at H
    have c4b0 : (t170 == 0) = true := beq_iff_eq.mpr c4
    have c4b1 : (t170 != 0) = false := bne_eq_false_iff_eq.mpr c4
    clear c4
    by_cases c5 : t173 = 0
    · rw [if_pos c5] at H
      have c5b0 : (t173 == 0) = true := beq_iff_eq.mpr c5
      have c5b1 : (t173 != 0) = false := bne_eq_false_iff_eq.mpr c5
      clear c5
      by_cases c6 : t176 = 0
      · rw [if_pos c6] at H
        have c6b0 : (t176 == 0) = true := beq_iff_eq.mpr c6
        have c6b1 : (t176 != 0) = false := bne_eq_false_iff_eq.mpr c6
        clear c6
        by_cases c7 : t172.toList = ([49, 50, 46, 53] : List UInt8)
        · rw [if_pos c7] at H
          have c7b0 : (t172.toList == ([49, 50, 46, 53] : List UInt8)) = true := beq_iff_eq.mpr c7
          have c7b1 : (t172.toList != ([49, 50, 46, 53] : List UInt8)) = false := bne_eq_false_iff_eq.mpr c7
          clear c7
          obtain rfl := Option.some.inj H
          go_enter Tryd.func11, Tryd.ntmps11
          go_wp2_with (first | ((with_reducible refine gate_callee (f := 18) rfl ?_); refine goesL_ (some 8) rfl rfl Tryd.func18 (by kernel_rfl) rfl #[.string (⟨#[49, 50, 46, 53, 48]⟩ : ByteArray)] rfl (by (try simp only [List.map_toArray, List.map_cons, List.map_nil]); first | done | rfl | (simp only [List.length_drop, List.length_take]; rfl)) ?_; (with_reducible refine (deci_Parse.calls k (⟨#[49, 50, 46, 53, 48]⟩ : ByteArray) t168 t169 t170 _ A1.out).mono ?_); rintro e w8 ⟨rfl, hb⟩; refine ⟨_, rfl, ?_⟩; have n0_ := Aside0.mk (below_step (by repeat (first | (with_reducible first | exact HB.out | apply below_alloc | apply pw_below_drewN | apply below_drew1) | exact HB.out)) hb); clear HB; have HB := n0_; clear n0_; (try clear hb); (try clear hb2); (try clear hk); (try clear hi)) | ((with_reducible refine gate_dst (N := 1) rfl ?_); refine box_event ?hg (N := 1) ?hd (cs := #[.int .i64 0, .int .i64 0]) (t := 23) ?hr ?_; (case hd => rfl); (case hg => rfl); (case hr => first | (go_simp; done) | (go_simp; rfl)); intro gb171 hg w9 hbox hb; have n0_ := Aside0.mk (below_step (by repeat (first | (with_reducible first | exact HB.out | apply below_alloc | apply pw_below_drewN | apply below_drew1) | exact HB.out)) hb); have n1_ := Aside0.mk (hbox); have n2_ := Aside0.mk ((by rw [hg]; exact (below_size (by repeat (first | (with_reducible first | exact HB.out | apply below_alloc | apply pw_below_drewN | apply below_drew1) | exact HB.out))) : w.heap.size ≤ gb171)); have n3_ := Aside0.mk ((by rw [hg]; exact (below_size (by repeat (first | (with_reducible first | exact HB.out | apply below_alloc | apply pw_below_drewN | apply below_drew1) | exact HB.out))) : w.heap.size ≤ gb171)); clear HB; have HB := n0_; have BK171 := n1_; have GW171 := n2_; have GE171 := n3_; clear n0_ n1_ n2_ n3_; clear hb hbox hg; have hcz10_0 : w9.cell? ⟨gb171, 0, none⟩ = some (.int .i64 0) := (blk_cell BK171.out 0).trans rfl; have hcz10_1 : w9.cell? ⟨gb171, 1, none⟩ = some (.int .i64 0) := (blk_cell BK171.out 1).trans rfl; have hfz10_0 := blk_frozen BK171.out 0; have hfz10_1 := blk_frozen BK171.out 1) | ((with_reducible refine gate_callee (f := 16) rfl ?_); refine goesL_ (some 13) rfl rfl Tryd.func16 (by kernel_rfl) rfl #[.agg #[.int .i64 t168, .int .i64 t169]] rfl (by (try simp only [List.map_toArray, List.map_cons, List.map_nil]); first | done | rfl | (simp only [List.length_drop, List.length_take]; rfl)) ?_; (with_reducible refine (deci_Text.calls k t168 t169 t172 t173 _ ?side1 A2.out).mono ?_); (case side1 => exact tabs_of HT.out (by repeat (first | (with_reducible first | exact HB.out | apply below_alloc | apply pw_below_drewN | apply below_drew1 | refine below_set ?_ GE171.out) | exact HB.out))); rintro e w11 ⟨rfl, hb⟩; refine ⟨_, rfl, ?_⟩; have n0_ := Aside0.mk (blk_below (g := gb171) (o := .cells #[.int .i64 t168, .int .i64 t169] 23 (0, 0)) (by (with_reducible repeat (first | refine blk_drewN ?_ _ | refine blk_drew ?_ | refine blk_alloc ?_ _)); refine blk_put (cs := #[.int .i64 t168, .int .i64 0]) ?_ 1 _ rfl; (with_reducible repeat (first | refine blk_drewN ?_ _ | refine blk_drew ?_ | refine blk_alloc ?_ _)); refine blk_put (cs := #[.int .i64 0, .int .i64 0]) ?_ 0 _ rfl; (with_reducible repeat (first | refine blk_drewN ?_ _ | refine blk_drew ?_ | refine blk_alloc ?_ _)); exact BK171.out) hb); have n1_ := Aside0.mk (below_step (by repeat (first | (with_reducible first | exact HB.out | apply below_alloc | apply pw_below_drewN | apply below_drew1 | refine below_set ?_ GE171.out) | exact HB.out)) hb); clear BK171; clear HB; have BK171 := n0_; have HB := n1_; clear n0_ n1_; (try clear hb); (try clear hb2); (try clear hk); (try clear hi)) | ((with_reducible refine gate_callee (f := 14) rfl ?_); refine goesL_ (some 19) rfl rfl Tryd.func14 (by kernel_rfl) rfl #[.agg #[.int .i64 2, .int .i64 0], .agg #[.int .i64 3, .int .i64 0]] rfl (by (try simp only [List.map_toArray, List.map_cons, List.map_nil]); first | done | rfl | (simp only [List.length_drop, List.length_take]; rfl)) ?_; (with_reducible refine (deci_Div.calls k 2 0 3 0 t174 t175 t176 _ A3.out).mono ?_); rintro e w12 ⟨rfl, hb⟩; refine ⟨_, rfl, ?_⟩; have n0_ := Aside0.mk (blk_below (g := gb171) (o := .cells #[.int .i64 t168, .int .i64 t169] 23 (0, 0)) (by (with_reducible repeat (first | refine blk_drewN ?_ _ | refine blk_drew ?_ | refine blk_alloc ?_ _)); exact BK171.out) hb); have n1_ := Aside0.mk (below_step (by repeat (first | (with_reducible first | exact HB.out | apply below_alloc | apply pw_below_drewN | apply below_drew1 | refine below_set ?_ GE171.out) | exact HB.out)) hb); clear BK171; clear HB; have BK171 := n0_; have HB := n1_; clear n0_ n1_; (try clear hb); (try clear hb2); (try clear hk); (try clear hi)) | ((with_reducible refine gate_dst (N := 5) rfl ?_); refine box_event ?hg (N := 5) ?hd (cs := #[.int .i64 0, .int .i64 0]) (t := 23) ?hr ?_; (case hd => rfl); (case hg => rfl); (case hr => first | (go_simp; done) | (go_simp; rfl)); intro gb177 hg w13 hbox hb; have n0_ := Aside0.mk (blk_below (g := gb171) (o := .cells #[.int .i64 t168, .int .i64 t169] 23 (0, 0)) (by (with_reducible repeat (first | refine blk_drewN ?_ _ | refine blk_drew ?_ | refine blk_alloc ?_ _)); exact BK171.out) hb); have n1_ := Aside0.mk (below_step (by repeat (first | (with_reducible first | exact HB.out | apply below_alloc | apply pw_below_drewN | apply below_drew1 | refine below_set ?_ GE171.out) | exact HB.out)) hb); have n2_ := Aside0.mk (hbox); have n3_ := Aside0.mk ((by rw [hg]; exact (below_size (by repeat (first | (with_reducible first | exact HB.out | apply below_alloc | apply pw_below_drewN | apply below_drew1 | refine below_set ?_ GE171.out) | exact HB.out))) : w.heap.size ≤ gb177)); have n4_ := Aside0.mk ((by rw [hg]; exact (below_size (by repeat (first | (with_reducible first | exact HB.out | apply below_alloc | apply pw_below_drewN | apply below_drew1 | refine below_set ?_ GE171.out) | exact HB.out))) : w.heap.size ≤ gb177)); have n5_ := Aside0.mk ((by rw [hg]; exact Nat.ne_of_lt (blk_lt (g := gb171) (o := .cells #[.int .i64 t168, .int .i64 t169] 23 (0, 0)) (by (with_reducible repeat (first | refine blk_drewN ?_ _ | refine blk_drew ?_ | refine blk_alloc ?_ _)); exact BK171.out)) : gb171 ≠ gb177)); have n6_ := Aside0.mk ((by rw [hg]; exact Nat.ne_of_gt (blk_lt (g := gb171) (o := .cells #[.int .i64 t168, .int .i64 t169] 23 (0, 0)) (by (with_reducible repeat (first | refine blk_drewN ?_ _ | refine blk_drew ?_ | refine blk_alloc ?_ _)); exact BK171.out)) : gb177 ≠ gb171)); clear BK171; clear HB; have BK171 := n0_; have HB := n1_; have BK177 := n2_; have GW177 := n3_; have GE177 := n4_; have NB171_177 := n5_; have NB177_171 := n6_; clear n0_ n1_ n2_ n3_ n4_ n5_ n6_; clear hb hbox hg; have hnb14 := NB177_171.out; have hnc14 := NB171_177.out; have hcz15_0 : w13.cell? ⟨gb177, 0, none⟩ = some (.int .i64 0) := (blk_cell BK177.out 0).trans rfl; have hcz15_1 : w13.cell? ⟨gb177, 1, none⟩ = some (.int .i64 0) := (blk_cell BK177.out 1).trans rfl; have hfz15_0 := blk_frozen BK177.out 0; have hfz15_1 := blk_frozen BK177.out 1))
          go_ret
          exact ⟨by first | rfl | (simp [errW_none, errW_some] <;> rfl) | (simp [*, errW_none, errW_some] <;> rfl), by repeat (first | (with_reducible first | exact HB.out | apply below_alloc | apply pw_below_drewN | apply below_drew1 | refine below_set ?_ GE171.out | refine below_set ?_ GE177.out) | exact HB.out)⟩
        · rw [if_neg c7] at H
          have c7b0 : (t172.toList == ([49, 50, 46, 53] : List UInt8)) = false := beq_eq_false_iff_ne.mpr c7
          have c7b1 : (t172.toList != ([49, 50, 46, 53] : List UInt8)) = true := bne_iff_ne.mpr c7
          obtain rfl := Option.some.inj H
          go_enter Tryd.func11, Tryd.ntmps11
          go_wp2_with (first | ((with_reducible refine gate_callee (f := 18) rfl ?_); refine goesL_ (some 8) rfl rfl Tryd.func18 (by kernel_rfl) rfl #[.string (⟨#[49, 50, 46, 53, 48]⟩ : ByteArray)] rfl (by (try simp only [List.map_toArray, List.map_cons, List.map_nil]); first | done | rfl | (simp only [List.length_drop, List.length_take]; rfl)) ?_; (with_reducible refine (deci_Parse.calls k (⟨#[49, 50, 46, 53, 48]⟩ : ByteArray) t168 t169 t170 _ A1.out).mono ?_); rintro e w16 ⟨rfl, hb⟩; refine ⟨_, rfl, ?_⟩; have n0_ := Aside0.mk (below_step (by repeat (first | (with_reducible first | exact HB.out | apply below_alloc | apply pw_below_drewN | apply below_drew1) | exact HB.out)) hb); clear HB; have HB := n0_; clear n0_; (try clear hb); (try clear hb2); (try clear hk); (try clear hi)) | ((with_reducible refine gate_dst (N := 1) rfl ?_); refine box_event ?hg (N := 1) ?hd (cs := #[.int .i64 0, .int .i64 0]) (t := 23) ?hr ?_; (case hd => rfl); (case hg => rfl); (case hr => first | (go_simp; done) | (go_simp; rfl)); intro gb171 hg w17 hbox hb; have n0_ := Aside0.mk (below_step (by repeat (first | (with_reducible first | exact HB.out | apply below_alloc | apply pw_below_drewN | apply below_drew1) | exact HB.out)) hb); have n1_ := Aside0.mk (hbox); have n2_ := Aside0.mk ((by rw [hg]; exact (below_size (by repeat (first | (with_reducible first | exact HB.out | apply below_alloc | apply pw_below_drewN | apply below_drew1) | exact HB.out))) : w.heap.size ≤ gb171)); have n3_ := Aside0.mk ((by rw [hg]; exact (below_size (by repeat (first | (with_reducible first | exact HB.out | apply below_alloc | apply pw_below_drewN | apply below_drew1) | exact HB.out))) : w.heap.size ≤ gb171)); clear HB; have HB := n0_; have BK171 := n1_; have GW171 := n2_; have GE171 := n3_; clear n0_ n1_ n2_ n3_; clear hb hbox hg; have hcz18_0 : w17.cell? ⟨gb171, 0, none⟩ = some (.int .i64 0) := (blk_cell BK171.out 0).trans rfl; have hcz18_1 : w17.cell? ⟨gb171, 1, none⟩ = some (.int .i64 0) := (blk_cell BK171.out 1).trans rfl; have hfz18_0 := blk_frozen BK171.out 0; have hfz18_1 := blk_frozen BK171.out 1) | ((with_reducible refine gate_callee (f := 16) rfl ?_); refine goesL_ (some 13) rfl rfl Tryd.func16 (by kernel_rfl) rfl #[.agg #[.int .i64 t168, .int .i64 t169]] rfl (by (try simp only [List.map_toArray, List.map_cons, List.map_nil]); first | done | rfl | (simp only [List.length_drop, List.length_take]; rfl)) ?_; (with_reducible refine (deci_Text.calls k t168 t169 t172 t173 _ ?side1 A2.out).mono ?_); (case side1 => exact tabs_of HT.out (by repeat (first | (with_reducible first | exact HB.out | apply below_alloc | apply pw_below_drewN | apply below_drew1 | refine below_set ?_ GE171.out) | exact HB.out))); rintro e w19 ⟨rfl, hb⟩; refine ⟨_, rfl, ?_⟩; have n0_ := Aside0.mk (blk_below (g := gb171) (o := .cells #[.int .i64 t168, .int .i64 t169] 23 (0, 0)) (by (with_reducible repeat (first | refine blk_drewN ?_ _ | refine blk_drew ?_ | refine blk_alloc ?_ _)); refine blk_put (cs := #[.int .i64 t168, .int .i64 0]) ?_ 1 _ rfl; (with_reducible repeat (first | refine blk_drewN ?_ _ | refine blk_drew ?_ | refine blk_alloc ?_ _)); refine blk_put (cs := #[.int .i64 0, .int .i64 0]) ?_ 0 _ rfl; (with_reducible repeat (first | refine blk_drewN ?_ _ | refine blk_drew ?_ | refine blk_alloc ?_ _)); exact BK171.out) hb); have n1_ := Aside0.mk (below_step (by repeat (first | (with_reducible first | exact HB.out | apply below_alloc | apply pw_below_drewN | apply below_drew1 | refine below_set ?_ GE171.out) | exact HB.out)) hb); clear BK171; clear HB; have BK171 := n0_; have HB := n1_; clear n0_ n1_; (try clear hb); (try clear hb2); (try clear hk); (try clear hi)) | ((with_reducible refine gate_callee (f := 14) rfl ?_); refine goesL_ (some 19) rfl rfl Tryd.func14 (by kernel_rfl) rfl #[.agg #[.int .i64 2, .int .i64 0], .agg #[.int .i64 3, .int .i64 0]] rfl (by (try simp only [List.map_toArray, List.map_cons, List.map_nil]); first | done | rfl | (simp only [List.length_drop, List.length_take]; rfl)) ?_; (with_reducible refine (deci_Div.calls k 2 0 3 0 t174 t175 t176 _ A3.out).mono ?_); rintro e w20 ⟨rfl, hb⟩; refine ⟨_, rfl, ?_⟩; have n0_ := Aside0.mk (blk_below (g := gb171) (o := .cells #[.int .i64 t168, .int .i64 t169] 23 (0, 0)) (by (with_reducible repeat (first | refine blk_drewN ?_ _ | refine blk_drew ?_ | refine blk_alloc ?_ _)); exact BK171.out) hb); have n1_ := Aside0.mk (below_step (by repeat (first | (with_reducible first | exact HB.out | apply below_alloc | apply pw_below_drewN | apply below_drew1 | refine below_set ?_ GE171.out) | exact HB.out)) hb); clear BK171; clear HB; have BK171 := n0_; have HB := n1_; clear n0_ n1_; (try clear hb); (try clear hb2); (try clear hk); (try clear hi)) | ((with_reducible refine gate_dst (N := 5) rfl ?_); refine box_event ?hg (N := 5) ?hd (cs := #[.int .i64 0, .int .i64 0]) (t := 23) ?hr ?_; (case hd => rfl); (case hg => rfl); (case hr => first | (go_simp; done) | (go_simp; rfl)); intro gb177 hg w21 hbox hb; have n0_ := Aside0.mk (blk_below (g := gb171) (o := .cells #[.int .i64 t168, .int .i64 t169] 23 (0, 0)) (by (with_reducible repeat (first | refine blk_drewN ?_ _ | refine blk_drew ?_ | refine blk_alloc ?_ _)); exact BK171.out) hb); have n1_ := Aside0.mk (below_step (by repeat (first | (with_reducible first | exact HB.out | apply below_alloc | apply pw_below_drewN | apply below_drew1 | refine below_set ?_ GE171.out) | exact HB.out)) hb); have n2_ := Aside0.mk (hbox); have n3_ := Aside0.mk ((by rw [hg]; exact (below_size (by repeat (first | (with_reducible first | exact HB.out | apply below_alloc | apply pw_below_drewN | apply below_drew1 | refine below_set ?_ GE171.out) | exact HB.out))) : w.heap.size ≤ gb177)); have n4_ := Aside0.mk ((by rw [hg]; exact (below_size (by repeat (first | (with_reducible first | exact HB.out | apply below_alloc | apply pw_below_drewN | apply below_drew1 | refine below_set ?_ GE171.out) | exact HB.out))) : w.heap.size ≤ gb177)); have n5_ := Aside0.mk ((by rw [hg]; exact Nat.ne_of_lt (blk_lt (g := gb171) (o := .cells #[.int .i64 t168, .int .i64 t169] 23 (0, 0)) (by (with_reducible repeat (first | refine blk_drewN ?_ _ | refine blk_drew ?_ | refine blk_alloc ?_ _)); exact BK171.out)) : gb171 ≠ gb177)); have n6_ := Aside0.mk ((by rw [hg]; exact Nat.ne_of_gt (blk_lt (g := gb171) (o := .cells #[.int .i64 t168, .int .i64 t169] 23 (0, 0)) (by (with_reducible repeat (first | refine blk_drewN ?_ _ | refine blk_drew ?_ | refine blk_alloc ?_ _)); exact BK171.out)) : gb177 ≠ gb171)); clear BK171; clear HB; have BK171 := n0_; have HB := n1_; have BK177 := n2_; have GW177 := n3_; have GE177 := n4_; have NB171_177 := n5_; have NB177_171 := n6_; clear n0_ n1_ n2_ n3_ n4_ n5_ n6_; clear hb hbox hg; have hnb22 := NB177_171.out; have hnc22 := NB171_177.out; have hcz23_0 : w21.cell? ⟨gb177, 0, none⟩ = some (.int .i64 0) := (blk_cell BK177.out 0).trans rfl; have hcz23_1 : w21.cell? ⟨gb177, 1, none⟩ = some (.int .i64 0) := (blk_cell BK177.out 1).trans rfl; have hfz23_0 := blk_frozen BK177.out 0; have hfz23_1 := blk_frozen BK177.out 1))
          go_ret
          exact ⟨by first | rfl | (simp [errW_none, errW_some] <;> rfl) | (simp [*, errW_none, errW_some] <;> rfl), by repeat (first | (with_reducible first | exact HB.out | apply below_alloc | apply pw_below_drewN | apply below_drew1 | refine below_set ?_ GE171.out | refine below_set ?_ GE177.out) | exact HB.out)⟩
      · rw [if_neg c6] at H
        have c6b0 : (t176 == 0) = false := beq_eq_false_iff_ne.mpr c6
        have c6b1 : (t176 != 0) = true := bne_iff_ne.mpr c6
        obtain rfl := Option.some.inj H
        go_enter Tryd.func11, Tryd.ntmps11
        go_wp2_with (first | ((with_reducible refine gate_callee (f := 18) rfl ?_); refine goesL_ (some 8) rfl rfl Tryd.func18 (by kernel_rfl) rfl #[.string (⟨#[49, 50, 46, 53, 48]⟩ : ByteArray)] rfl (by (try simp only [List.map_toArray, List.map_cons, List.map_nil]); first | done | rfl | (simp only [List.length_drop, List.length_take]; rfl)) ?_; (with_reducible refine (deci_Parse.calls k (⟨#[49, 50, 46, 53, 48]⟩ : ByteArray) t168 t169 t170 _ A1.out).mono ?_); rintro e w24 ⟨rfl, hb⟩; refine ⟨_, rfl, ?_⟩; have n0_ := Aside0.mk (below_step (by repeat (first | (with_reducible first | exact HB.out | apply below_alloc | apply pw_below_drewN | apply below_drew1) | exact HB.out)) hb); clear HB; have HB := n0_; clear n0_; (try clear hb); (try clear hb2); (try clear hk); (try clear hi)) | ((with_reducible refine gate_dst (N := 1) rfl ?_); refine box_event ?hg (N := 1) ?hd (cs := #[.int .i64 0, .int .i64 0]) (t := 23) ?hr ?_; (case hd => rfl); (case hg => rfl); (case hr => first | (go_simp; done) | (go_simp; rfl)); intro gb171 hg w25 hbox hb; have n0_ := Aside0.mk (below_step (by repeat (first | (with_reducible first | exact HB.out | apply below_alloc | apply pw_below_drewN | apply below_drew1) | exact HB.out)) hb); have n1_ := Aside0.mk (hbox); have n2_ := Aside0.mk ((by rw [hg]; exact (below_size (by repeat (first | (with_reducible first | exact HB.out | apply below_alloc | apply pw_below_drewN | apply below_drew1) | exact HB.out))) : w.heap.size ≤ gb171)); have n3_ := Aside0.mk ((by rw [hg]; exact (below_size (by repeat (first | (with_reducible first | exact HB.out | apply below_alloc | apply pw_below_drewN | apply below_drew1) | exact HB.out))) : w.heap.size ≤ gb171)); clear HB; have HB := n0_; have BK171 := n1_; have GW171 := n2_; have GE171 := n3_; clear n0_ n1_ n2_ n3_; clear hb hbox hg; have hcz26_0 : w25.cell? ⟨gb171, 0, none⟩ = some (.int .i64 0) := (blk_cell BK171.out 0).trans rfl; have hcz26_1 : w25.cell? ⟨gb171, 1, none⟩ = some (.int .i64 0) := (blk_cell BK171.out 1).trans rfl; have hfz26_0 := blk_frozen BK171.out 0; have hfz26_1 := blk_frozen BK171.out 1) | ((with_reducible refine gate_callee (f := 16) rfl ?_); refine goesL_ (some 13) rfl rfl Tryd.func16 (by kernel_rfl) rfl #[.agg #[.int .i64 t168, .int .i64 t169]] rfl (by (try simp only [List.map_toArray, List.map_cons, List.map_nil]); first | done | rfl | (simp only [List.length_drop, List.length_take]; rfl)) ?_; (with_reducible refine (deci_Text.calls k t168 t169 t172 t173 _ ?side1 A2.out).mono ?_); (case side1 => exact tabs_of HT.out (by repeat (first | (with_reducible first | exact HB.out | apply below_alloc | apply pw_below_drewN | apply below_drew1 | refine below_set ?_ GE171.out) | exact HB.out))); rintro e w27 ⟨rfl, hb⟩; refine ⟨_, rfl, ?_⟩; have n0_ := Aside0.mk (blk_below (g := gb171) (o := .cells #[.int .i64 t168, .int .i64 t169] 23 (0, 0)) (by (with_reducible repeat (first | refine blk_drewN ?_ _ | refine blk_drew ?_ | refine blk_alloc ?_ _)); refine blk_put (cs := #[.int .i64 t168, .int .i64 0]) ?_ 1 _ rfl; (with_reducible repeat (first | refine blk_drewN ?_ _ | refine blk_drew ?_ | refine blk_alloc ?_ _)); refine blk_put (cs := #[.int .i64 0, .int .i64 0]) ?_ 0 _ rfl; (with_reducible repeat (first | refine blk_drewN ?_ _ | refine blk_drew ?_ | refine blk_alloc ?_ _)); exact BK171.out) hb); have n1_ := Aside0.mk (below_step (by repeat (first | (with_reducible first | exact HB.out | apply below_alloc | apply pw_below_drewN | apply below_drew1 | refine below_set ?_ GE171.out) | exact HB.out)) hb); clear BK171; clear HB; have BK171 := n0_; have HB := n1_; clear n0_ n1_; (try clear hb); (try clear hb2); (try clear hk); (try clear hi)) | ((with_reducible refine gate_callee (f := 14) rfl ?_); refine goesL_ (some 19) rfl rfl Tryd.func14 (by kernel_rfl) rfl #[.agg #[.int .i64 2, .int .i64 0], .agg #[.int .i64 3, .int .i64 0]] rfl (by (try simp only [List.map_toArray, List.map_cons, List.map_nil]); first | done | rfl | (simp only [List.length_drop, List.length_take]; rfl)) ?_; (with_reducible refine (deci_Div.calls k 2 0 3 0 t174 t175 t176 _ A3.out).mono ?_); rintro e w28 ⟨rfl, hb⟩; refine ⟨_, rfl, ?_⟩; have n0_ := Aside0.mk (blk_below (g := gb171) (o := .cells #[.int .i64 t168, .int .i64 t169] 23 (0, 0)) (by (with_reducible repeat (first | refine blk_drewN ?_ _ | refine blk_drew ?_ | refine blk_alloc ?_ _)); exact BK171.out) hb); have n1_ := Aside0.mk (below_step (by repeat (first | (with_reducible first | exact HB.out | apply below_alloc | apply pw_below_drewN | apply below_drew1 | refine below_set ?_ GE171.out) | exact HB.out)) hb); clear BK171; clear HB; have BK171 := n0_; have HB := n1_; clear n0_ n1_; (try clear hb); (try clear hb2); (try clear hk); (try clear hi)) | ((with_reducible refine gate_dst (N := 5) rfl ?_); refine box_event ?hg (N := 5) ?hd (cs := #[.int .i64 0, .int .i64 0]) (t := 23) ?hr ?_; (case hd => rfl); (case hg => rfl); (case hr => first | (go_simp; done) | (go_simp; rfl)); intro gb177 hg w29 hbox hb; have n0_ := Aside0.mk (blk_below (g := gb171) (o := .cells #[.int .i64 t168, .int .i64 t169] 23 (0, 0)) (by (with_reducible repeat (first | refine blk_drewN ?_ _ | refine blk_drew ?_ | refine blk_alloc ?_ _)); exact BK171.out) hb); have n1_ := Aside0.mk (below_step (by repeat (first | (with_reducible first | exact HB.out | apply below_alloc | apply pw_below_drewN | apply below_drew1 | refine below_set ?_ GE171.out) | exact HB.out)) hb); have n2_ := Aside0.mk (hbox); have n3_ := Aside0.mk ((by rw [hg]; exact (below_size (by repeat (first | (with_reducible first | exact HB.out | apply below_alloc | apply pw_below_drewN | apply below_drew1 | refine below_set ?_ GE171.out) | exact HB.out))) : w.heap.size ≤ gb177)); have n4_ := Aside0.mk ((by rw [hg]; exact (below_size (by repeat (first | (with_reducible first | exact HB.out | apply below_alloc | apply pw_below_drewN | apply below_drew1 | refine below_set ?_ GE171.out) | exact HB.out))) : w.heap.size ≤ gb177)); have n5_ := Aside0.mk ((by rw [hg]; exact Nat.ne_of_lt (blk_lt (g := gb171) (o := .cells #[.int .i64 t168, .int .i64 t169] 23 (0, 0)) (by (with_reducible repeat (first | refine blk_drewN ?_ _ | refine blk_drew ?_ | refine blk_alloc ?_ _)); exact BK171.out)) : gb171 ≠ gb177)); have n6_ := Aside0.mk ((by rw [hg]; exact Nat.ne_of_gt (blk_lt (g := gb171) (o := .cells #[.int .i64 t168, .int .i64 t169] 23 (0, 0)) (by (with_reducible repeat (first | refine blk_drewN ?_ _ | refine blk_drew ?_ | refine blk_alloc ?_ _)); exact BK171.out)) : gb177 ≠ gb171)); clear BK171; clear HB; have BK171 := n0_; have HB := n1_; have BK177 := n2_; have GW177 := n3_; have GE177 := n4_; have NB171_177 := n5_; have NB177_171 := n6_; clear n0_ n1_ n2_ n3_ n4_ n5_ n6_; clear hb hbox hg; have hnb30 := NB177_171.out; have hnc30 := NB171_177.out; have hcz31_0 : w29.cell? ⟨gb177, 0, none⟩ = some (.int .i64 0) := (blk_cell BK177.out 0).trans rfl; have hcz31_1 : w29.cell? ⟨gb177, 1, none⟩ = some (.int .i64 0) := (blk_cell BK177.out 1).trans rfl; have hfz31_0 := blk_frozen BK177.out 0; have hfz31_1 := blk_frozen BK177.out 1))
        go_ret
        exact ⟨by first | rfl | (simp [errW_none, errW_some] <;> rfl) | (simp [*, errW_none, errW_some] <;> rfl), by repeat (first | (with_reducible first | exact HB.out | apply below_alloc | apply pw_below_drewN | apply below_drew1 | refine below_set ?_ GE171.out | refine below_set ?_ GE177.out) | exact HB.out)⟩
    · rw [if_neg c5] at H
      have c5b0 : (t173 == 0) = false := beq_eq_false_iff_ne.mpr c5
      have c5b1 : (t173 != 0) = true := bne_iff_ne.mpr c5
      obtain rfl := Option.some.inj H
      go_enter Tryd.func11, Tryd.ntmps11
      go_wp2_with (first | ((with_reducible refine gate_callee (f := 18) rfl ?_); refine goesL_ (some 8) rfl rfl Tryd.func18 (by kernel_rfl) rfl #[.string (⟨#[49, 50, 46, 53, 48]⟩ : ByteArray)] rfl (by (try simp only [List.map_toArray, List.map_cons, List.map_nil]); first | done | rfl | (simp only [List.length_drop, List.length_take]; rfl)) ?_; (with_reducible refine (deci_Parse.calls k (⟨#[49, 50, 46, 53, 48]⟩ : ByteArray) t168 t169 t170 _ A1.out).mono ?_); rintro e w32 ⟨rfl, hb⟩; refine ⟨_, rfl, ?_⟩; have n0_ := Aside0.mk (below_step (by repeat (first | (with_reducible first | exact HB.out | apply below_alloc | apply pw_below_drewN | apply below_drew1) | exact HB.out)) hb); clear HB; have HB := n0_; clear n0_; (try clear hb); (try clear hb2); (try clear hk); (try clear hi)) | ((with_reducible refine gate_dst (N := 1) rfl ?_); refine box_event ?hg (N := 1) ?hd (cs := #[.int .i64 0, .int .i64 0]) (t := 23) ?hr ?_; (case hd => rfl); (case hg => rfl); (case hr => first | (go_simp; done) | (go_simp; rfl)); intro gb171 hg w33 hbox hb; have n0_ := Aside0.mk (below_step (by repeat (first | (with_reducible first | exact HB.out | apply below_alloc | apply pw_below_drewN | apply below_drew1) | exact HB.out)) hb); have n1_ := Aside0.mk (hbox); have n2_ := Aside0.mk ((by rw [hg]; exact (below_size (by repeat (first | (with_reducible first | exact HB.out | apply below_alloc | apply pw_below_drewN | apply below_drew1) | exact HB.out))) : w.heap.size ≤ gb171)); have n3_ := Aside0.mk ((by rw [hg]; exact (below_size (by repeat (first | (with_reducible first | exact HB.out | apply below_alloc | apply pw_below_drewN | apply below_drew1) | exact HB.out))) : w.heap.size ≤ gb171)); clear HB; have HB := n0_; have BK171 := n1_; have GW171 := n2_; have GE171 := n3_; clear n0_ n1_ n2_ n3_; clear hb hbox hg; have hcz34_0 : w33.cell? ⟨gb171, 0, none⟩ = some (.int .i64 0) := (blk_cell BK171.out 0).trans rfl; have hcz34_1 : w33.cell? ⟨gb171, 1, none⟩ = some (.int .i64 0) := (blk_cell BK171.out 1).trans rfl; have hfz34_0 := blk_frozen BK171.out 0; have hfz34_1 := blk_frozen BK171.out 1) | ((with_reducible refine gate_callee (f := 16) rfl ?_); refine goesL_ (some 13) rfl rfl Tryd.func16 (by kernel_rfl) rfl #[.agg #[.int .i64 t168, .int .i64 t169]] rfl (by (try simp only [List.map_toArray, List.map_cons, List.map_nil]); first | done | rfl | (simp only [List.length_drop, List.length_take]; rfl)) ?_; (with_reducible refine (deci_Text.calls k t168 t169 t172 t173 _ ?side1 A2.out).mono ?_); (case side1 => exact tabs_of HT.out (by repeat (first | (with_reducible first | exact HB.out | apply below_alloc | apply pw_below_drewN | apply below_drew1 | refine below_set ?_ GE171.out) | exact HB.out))); rintro e w35 ⟨rfl, hb⟩; refine ⟨_, rfl, ?_⟩; have n0_ := Aside0.mk (blk_below (g := gb171) (o := .cells #[.int .i64 t168, .int .i64 t169] 23 (0, 0)) (by (with_reducible repeat (first | refine blk_drewN ?_ _ | refine blk_drew ?_ | refine blk_alloc ?_ _)); refine blk_put (cs := #[.int .i64 t168, .int .i64 0]) ?_ 1 _ rfl; (with_reducible repeat (first | refine blk_drewN ?_ _ | refine blk_drew ?_ | refine blk_alloc ?_ _)); refine blk_put (cs := #[.int .i64 0, .int .i64 0]) ?_ 0 _ rfl; (with_reducible repeat (first | refine blk_drewN ?_ _ | refine blk_drew ?_ | refine blk_alloc ?_ _)); exact BK171.out) hb); have n1_ := Aside0.mk (below_step (by repeat (first | (with_reducible first | exact HB.out | apply below_alloc | apply pw_below_drewN | apply below_drew1 | refine below_set ?_ GE171.out) | exact HB.out)) hb); clear BK171; clear HB; have BK171 := n0_; have HB := n1_; clear n0_ n1_; (try clear hb); (try clear hb2); (try clear hk); (try clear hi)) | ((with_reducible refine gate_callee (f := 14) rfl ?_); refine goesL_ (some 19) rfl rfl Tryd.func14 (by kernel_rfl) rfl #[.agg #[.int .i64 2, .int .i64 0], .agg #[.int .i64 3, .int .i64 0]] rfl (by (try simp only [List.map_toArray, List.map_cons, List.map_nil]); first | done | rfl | (simp only [List.length_drop, List.length_take]; rfl)) ?_; (with_reducible refine (deci_Div.calls k 2 0 3 0 t174 t175 t176 _ A3.out).mono ?_); rintro e w36 ⟨rfl, hb⟩; refine ⟨_, rfl, ?_⟩; have n0_ := Aside0.mk (blk_below (g := gb171) (o := .cells #[.int .i64 t168, .int .i64 t169] 23 (0, 0)) (by (with_reducible repeat (first | refine blk_drewN ?_ _ | refine blk_drew ?_ | refine blk_alloc ?_ _)); exact BK171.out) hb); have n1_ := Aside0.mk (below_step (by repeat (first | (with_reducible first | exact HB.out | apply below_alloc | apply pw_below_drewN | apply below_drew1 | refine below_set ?_ GE171.out) | exact HB.out)) hb); clear BK171; clear HB; have BK171 := n0_; have HB := n1_; clear n0_ n1_; (try clear hb); (try clear hb2); (try clear hk); (try clear hi)) | ((with_reducible refine gate_dst (N := 5) rfl ?_); refine box_event ?hg (N := 5) ?hd (cs := #[.int .i64 0, .int .i64 0]) (t := 23) ?hr ?_; (case hd => rfl); (case hg => rfl); (case hr => first | (go_simp; done) | (go_simp; rfl)); intro gb177 hg w37 hbox hb; have n0_ := Aside0.mk (blk_below (g := gb171) (o := .cells #[.int .i64 t168, .int .i64 t169] 23 (0, 0)) (by (with_reducible repeat (first | refine blk_drewN ?_ _ | refine blk_drew ?_ | refine blk_alloc ?_ _)); exact BK171.out) hb); have n1_ := Aside0.mk (below_step (by repeat (first | (with_reducible first | exact HB.out | apply below_alloc | apply pw_below_drewN | apply below_drew1 | refine below_set ?_ GE171.out) | exact HB.out)) hb); have n2_ := Aside0.mk (hbox); have n3_ := Aside0.mk ((by rw [hg]; exact (below_size (by repeat (first | (with_reducible first | exact HB.out | apply below_alloc | apply pw_below_drewN | apply below_drew1 | refine below_set ?_ GE171.out) | exact HB.out))) : w.heap.size ≤ gb177)); have n4_ := Aside0.mk ((by rw [hg]; exact (below_size (by repeat (first | (with_reducible first | exact HB.out | apply below_alloc | apply pw_below_drewN | apply below_drew1 | refine below_set ?_ GE171.out) | exact HB.out))) : w.heap.size ≤ gb177)); have n5_ := Aside0.mk ((by rw [hg]; exact Nat.ne_of_lt (blk_lt (g := gb171) (o := .cells #[.int .i64 t168, .int .i64 t169] 23 (0, 0)) (by (with_reducible repeat (first | refine blk_drewN ?_ _ | refine blk_drew ?_ | refine blk_alloc ?_ _)); exact BK171.out)) : gb171 ≠ gb177)); have n6_ := Aside0.mk ((by rw [hg]; exact Nat.ne_of_gt (blk_lt (g := gb171) (o := .cells #[.int .i64 t168, .int .i64 t169] 23 (0, 0)) (by (with_reducible repeat (first | refine blk_drewN ?_ _ | refine blk_drew ?_ | refine blk_alloc ?_ _)); exact BK171.out)) : gb177 ≠ gb171)); clear BK171; clear HB; have BK171 := n0_; have HB := n1_; have BK177 := n2_; have GW177 := n3_; have GE177 := n4_; have NB171_177 := n5_; have NB177_171 := n6_; clear n0_ n1_ n2_ n3_ n4_ n5_ n6_; clear hb hbox hg; have hnb38 := NB177_171.out; have hnc38 := NB171_177.out; have hcz39_0 : w37.cell? ⟨gb177, 0, none⟩ = some (.int .i64 0) := (blk_cell BK177.out 0).trans rfl; have hcz39_1 : w37.cell? ⟨gb177, 1, none⟩ = some (.int .i64 0) := (blk_cell BK177.out 1).trans rfl; have hfz39_0 := blk_frozen BK177.out 0; have hfz39_1 := blk_frozen BK177.out 1))
      go_ret
      exact ⟨by first | rfl | (simp [errW_none, errW_some] <;> rfl) | (simp [*, errW_none, errW_some] <;> rfl), by repeat (first | (with_reducible first | exact HB.out | apply below_alloc | apply pw_below_drewN | apply below_drew1 | refine below_set ?_ GE171.out | refine below_set ?_ GE177.out) | exact HB.out)⟩
  · rw [if_neg c4] at H
    have c4b0 : (t170 == 0) = false := beq_eq_false_iff_ne.mpr c4
    have c4b1 : (t170 != 0) = true := bne_iff_ne.mpr c4
    obtain rfl := Option.some.inj H
    go_enter Tryd.func11, Tryd.ntmps11
    go_wp2_with (first | ((with_reducible refine gate_callee (f := 18) rfl ?_); refine goesL_ (some 8) rfl rfl Tryd.func18 (by kernel_rfl) rfl #[.string (⟨#[49, 50, 46, 53, 48]⟩ : ByteArray)] rfl (by (try simp only [List.map_toArray, List.map_cons, List.map_nil]); first | done | rfl | (simp only [List.length_drop, List.length_take]; rfl)) ?_; (with_reducible refine (deci_Parse.calls k (⟨#[49, 50, 46, 53, 48]⟩ : ByteArray) t168 t169 t170 _ A1.out).mono ?_); rintro e w40 ⟨rfl, hb⟩; refine ⟨_, rfl, ?_⟩; have n0_ := Aside0.mk (below_step (by repeat (first | (with_reducible first | exact HB.out | apply below_alloc | apply pw_below_drewN | apply below_drew1) | exact HB.out)) hb); clear HB; have HB := n0_; clear n0_; (try clear hb); (try clear hb2); (try clear hk); (try clear hi)) | ((with_reducible refine gate_dst (N := 1) rfl ?_); refine box_event ?hg (N := 1) ?hd (cs := #[.int .i64 0, .int .i64 0]) (t := 23) ?hr ?_; (case hd => rfl); (case hg => rfl); (case hr => first | (go_simp; done) | (go_simp; rfl)); intro gb171 hg w41 hbox hb; have n0_ := Aside0.mk (below_step (by repeat (first | (with_reducible first | exact HB.out | apply below_alloc | apply pw_below_drewN | apply below_drew1) | exact HB.out)) hb); have n1_ := Aside0.mk (hbox); have n2_ := Aside0.mk ((by rw [hg]; exact (below_size (by repeat (first | (with_reducible first | exact HB.out | apply below_alloc | apply pw_below_drewN | apply below_drew1) | exact HB.out))) : w.heap.size ≤ gb171)); have n3_ := Aside0.mk ((by rw [hg]; exact (below_size (by repeat (first | (with_reducible first | exact HB.out | apply below_alloc | apply pw_below_drewN | apply below_drew1) | exact HB.out))) : w.heap.size ≤ gb171)); clear HB; have HB := n0_; have BK171 := n1_; have GW171 := n2_; have GE171 := n3_; clear n0_ n1_ n2_ n3_; clear hb hbox hg; have hcz42_0 : w41.cell? ⟨gb171, 0, none⟩ = some (.int .i64 0) := (blk_cell BK171.out 0).trans rfl; have hcz42_1 : w41.cell? ⟨gb171, 1, none⟩ = some (.int .i64 0) := (blk_cell BK171.out 1).trans rfl; have hfz42_0 := blk_frozen BK171.out 0; have hfz42_1 := blk_frozen BK171.out 1) | ((with_reducible refine gate_callee (f := 16) rfl ?_); refine goesL_ (some 13) rfl rfl Tryd.func16 (by kernel_rfl) rfl #[.agg #[.int .i64 t168, .int .i64 t169]] rfl (by (try simp only [List.map_toArray, List.map_cons, List.map_nil]); first | done | rfl | (simp only [List.length_drop, List.length_take]; rfl)) ?_; (with_reducible refine (deci_Text.calls k t168 t169 t172 t173 _ ?side1 A2.out).mono ?_); (case side1 => exact tabs_of HT.out (by repeat (first | (with_reducible first | exact HB.out | apply below_alloc | apply pw_below_drewN | apply below_drew1 | refine below_set ?_ GE171.out) | exact HB.out))); rintro e w43 ⟨rfl, hb⟩; refine ⟨_, rfl, ?_⟩; have n0_ := Aside0.mk (blk_below (g := gb171) (o := .cells #[.int .i64 t168, .int .i64 t169] 23 (0, 0)) (by (with_reducible repeat (first | refine blk_drewN ?_ _ | refine blk_drew ?_ | refine blk_alloc ?_ _)); refine blk_put (cs := #[.int .i64 t168, .int .i64 0]) ?_ 1 _ rfl; (with_reducible repeat (first | refine blk_drewN ?_ _ | refine blk_drew ?_ | refine blk_alloc ?_ _)); refine blk_put (cs := #[.int .i64 0, .int .i64 0]) ?_ 0 _ rfl; (with_reducible repeat (first | refine blk_drewN ?_ _ | refine blk_drew ?_ | refine blk_alloc ?_ _)); exact BK171.out) hb); have n1_ := Aside0.mk (below_step (by repeat (first | (with_reducible first | exact HB.out | apply below_alloc | apply pw_below_drewN | apply below_drew1 | refine below_set ?_ GE171.out) | exact HB.out)) hb); clear BK171; clear HB; have BK171 := n0_; have HB := n1_; clear n0_ n1_; (try clear hb); (try clear hb2); (try clear hk); (try clear hi)) | ((with_reducible refine gate_callee (f := 14) rfl ?_); refine goesL_ (some 19) rfl rfl Tryd.func14 (by kernel_rfl) rfl #[.agg #[.int .i64 2, .int .i64 0], .agg #[.int .i64 3, .int .i64 0]] rfl (by (try simp only [List.map_toArray, List.map_cons, List.map_nil]); first | done | rfl | (simp only [List.length_drop, List.length_take]; rfl)) ?_; (with_reducible refine (deci_Div.calls k 2 0 3 0 t174 t175 t176 _ A3.out).mono ?_); rintro e w44 ⟨rfl, hb⟩; refine ⟨_, rfl, ?_⟩; have n0_ := Aside0.mk (blk_below (g := gb171) (o := .cells #[.int .i64 t168, .int .i64 t169] 23 (0, 0)) (by (with_reducible repeat (first | refine blk_drewN ?_ _ | refine blk_drew ?_ | refine blk_alloc ?_ _)); exact BK171.out) hb); have n1_ := Aside0.mk (below_step (by repeat (first | (with_reducible first | exact HB.out | apply below_alloc | apply pw_below_drewN | apply below_drew1 | refine below_set ?_ GE171.out) | exact HB.out)) hb); clear BK171; clear HB; have BK171 := n0_; have HB := n1_; clear n0_ n1_; (try clear hb); (try clear hb2); (try clear hk); (try clear hi)) | ((with_reducible refine gate_dst (N := 5) rfl ?_); refine box_event ?hg (N := 5) ?hd (cs := #[.int .i64 0, .int .i64 0]) (t := 23) ?hr ?_; (case hd => rfl); (case hg => rfl); (case hr => first | (go_simp; done) | (go_simp; rfl)); intro gb177 hg w45 hbox hb; have n0_ := Aside0.mk (blk_below (g := gb171) (o := .cells #[.int .i64 t168, .int .i64 t169] 23 (0, 0)) (by (with_reducible repeat (first | refine blk_drewN ?_ _ | refine blk_drew ?_ | refine blk_alloc ?_ _)); exact BK171.out) hb); have n1_ := Aside0.mk (below_step (by repeat (first | (with_reducible first | exact HB.out | apply below_alloc | apply pw_below_drewN | apply below_drew1 | refine below_set ?_ GE171.out) | exact HB.out)) hb); have n2_ := Aside0.mk (hbox); have n3_ := Aside0.mk ((by rw [hg]; exact (below_size (by repeat (first | (with_reducible first | exact HB.out | apply below_alloc | apply pw_below_drewN | apply below_drew1 | refine below_set ?_ GE171.out) | exact HB.out))) : w.heap.size ≤ gb177)); have n4_ := Aside0.mk ((by rw [hg]; exact (below_size (by repeat (first | (with_reducible first | exact HB.out | apply below_alloc | apply pw_below_drewN | apply below_drew1 | refine below_set ?_ GE171.out) | exact HB.out))) : w.heap.size ≤ gb177)); have n5_ := Aside0.mk ((by rw [hg]; exact Nat.ne_of_lt (blk_lt (g := gb171) (o := .cells #[.int .i64 t168, .int .i64 t169] 23 (0, 0)) (by (with_reducible repeat (first | refine blk_drewN ?_ _ | refine blk_drew ?_ | refine blk_alloc ?_ _)); exact BK171.out)) : gb171 ≠ gb177)); have n6_ := Aside0.mk ((by rw [hg]; exact Nat.ne_of_gt (blk_lt (g := gb171) (o := .cells #[.int .i64 t168, .int .i64 t169] 23 (0, 0)) (by (with_reducible repeat (first | refine blk_drewN ?_ _ | refine blk_drew ?_ | refine blk_alloc ?_ _)); exact BK171.out)) : gb177 ≠ gb171)); clear BK171; clear HB; have BK171 := n0_; have HB := n1_; have BK177 := n2_; have GW177 := n3_; have GE177 := n4_; have NB171_177 := n5_; have NB177_171 := n6_; clear n0_ n1_ n2_ n3_ n4_ n5_ n6_; clear hb hbox hg; have hnb46 := NB177_171.out; have hnc46 := NB171_177.out; have hcz47_0 : w45.cell? ⟨gb177, 0, none⟩ = some (.int .i64 0) := (blk_cell BK177.out 0).trans rfl; have hcz47_1 : w45.cell? ⟨gb177, 1, none⟩ = some (.int .i64 0) := (blk_cell BK177.out 1).trans rfl; have hfz47_0 := blk_frozen BK177.out 0; have hfz47_1 := blk_frozen BK177.out 1))
    go_ret
    exact ⟨by first | rfl | (simp [errW_none, errW_some] <;> rfl) | (simp [*, errW_none, errW_some] <;> rfl), by repeat (first | (with_reducible first | exact HB.out | apply below_alloc | apply pw_below_drewN | apply below_drew1 | refine below_set ?_ GE171.out | refine below_set ?_ GE177.out) | exact HB.out)⟩
end Go.Proofs.YtgkemhgihbfmmaaDoor.PA
end
section
namespace Go.Proofs.YtgkemhgihbfmmaaDoor.PA
open Go.RowKit Go.Proofs.YtgkemhgihbfmmaaDoorW.PrintWords Go.Proofs.YtgkemhgihbfmmaaDoorW.PrintLast Go.Proofs.YtgkemhgihbfmmaaDoorW.PrintMore
attribute [local go_sem] max2_int min2_int max_two min_two max_three min_three max_four min_four
set_option linter.unusedVariables false
set_option linter.unusedSimpArgs false
def soffitref01_Sound.f (k : Nat) (a0_0 : Int) (a0_1 : Int) : Option (Bool) := (soffitref01_Make.f k a0_0 a0_1).bind fun bt179 => (if bt179.2.2 = 0 then (if bt179.1 = a0_0 then (some (bt179.2.1 == a0_1)) else (some false)) else (some false))
theorem soffitref01_Sound.mono : ∀ a0 a1 k, LeO (soffitref01_Sound.f k a0 a1) (soffitref01_Sound.f (k + 1) a0 a1) := by
  intro a0 a1 k
  unfold soffitref01_Sound.f
  repeat' first
      | (with_reducible exact soffitref01_Make.mono _ _ _)
      | (with_reducible exact LeO.refl _)
      | (with_reducible exact LeO.none _)
      | (with_reducible refine LeO.ite ?_ ?_)
      | (with_reducible refine LeO.bind ?_ (fun _ => ?_))
      | exact soffitref01_Make.mono _ _ _
      | exact LeO.none _
      | refine LeO.ite ?_ ?_
      | refine LeO.bind ?_ (fun _ => ?_)
set_option maxHeartbeats 8000000 in
set_option maxRecDepth 100000 in
theorem soffitref01_Sound.calls (k : Nat) (a0_0 : Int) (a0_1 : Int) (r : Bool) (w : World) (h : soffitref01_Sound.f k a0_0 a0_1 = some r) :
    Calls Tryd.prog 13 #[.agg #[.int .i64 a0_0, .int .i64 a0_1]] w fun e w' => e = .returned (.bool r) ∧ Below w.heap.size w w' := by
  have hu23 := Tryd.underlying23
  have HB := Aside0.mk (Below.refl w.heap.size w)
  have H : ((soffitref01_Make.f k a0_0 a0_1).bind fun bt179 => (if bt179.2.2 = 0 then (if bt179.1 = a0_0 then (some (bt179.2.1 == a0_1)) else (some false)) else (some false))) = some r := h
  clear h
  replace H := Option.bind_eq_some_iff.mp H
  obtain ⟨⟨t179, t180, t181⟩, A20, H⟩ := H
  replace H : (if t181 = 0 then (if t179 = a0_0 then (some (t180 == a0_1)) else (some false)) else (some false)) = some r := H
  have A2 := Aside0.mk A20
  clear A20
  by_cases c3 : t181 = 0
  · rw [if_pos c3] at H
    have c3b0 : (t181 == 0) = true := beq_iff_eq.mpr c3
    have c3b1 : (t181 != 0) = false := bne_eq_false_iff_eq.mpr c3
    clear c3
    by_cases c4 : t179 = a0_0
    · rw [if_pos c4] at H
      have c4b0 : (t179 == a0_0) = true := beq_iff_eq.mpr c4
      have c4b1 : (t179 != a0_0) = false := bne_eq_false_iff_eq.mpr c4
      clear c4
      obtain rfl := Option.some.inj H
      go_enter Tryd.func13, Tryd.ntmps13
      go_wp2_with (first | ((with_reducible refine gate_dst (N := 1) rfl ?_); refine box_event ?hg (N := 1) ?hd (cs := #[.int .i64 a0_0, .int .i64 a0_1]) (t := 23) ?hr ?_; (case hd => rfl); (case hg => rfl); (case hr => first | (go_simp; done) | (go_simp; rfl)); intro gb178 hg w5 hbox hb; have n0_ := Aside0.mk (below_step (by repeat (first | (with_reducible first | exact HB.out | apply below_alloc | apply pw_below_drewN | apply below_drew1) | exact HB.out)) hb); have n1_ := Aside0.mk (hbox); have n2_ := Aside0.mk ((by rw [hg]; exact (below_size (by repeat (first | (with_reducible first | exact HB.out | apply below_alloc | apply pw_below_drewN | apply below_drew1) | exact HB.out))) : w.heap.size ≤ gb178)); have n3_ := Aside0.mk ((by rw [hg]; exact (below_size (by repeat (first | (with_reducible first | exact HB.out | apply below_alloc | apply pw_below_drewN | apply below_drew1) | exact HB.out))) : w.heap.size ≤ gb178)); clear HB; have HB := n0_; have BK178 := n1_; have GW178 := n2_; have GE178 := n3_; clear n0_ n1_ n2_ n3_; clear hb hbox hg; have hcz6_0 : w5.cell? ⟨gb178, 0, none⟩ = some (.int .i64 a0_0) := (blk_cell BK178.out 0).trans rfl; have hcz6_1 : w5.cell? ⟨gb178, 1, none⟩ = some (.int .i64 a0_1) := (blk_cell BK178.out 1).trans rfl; have hfz6_0 := blk_frozen BK178.out 0; have hfz6_1 := blk_frozen BK178.out 1) | ((with_reducible refine gate_callee (f := 10) rfl ?_); refine goesL_ (some 10) rfl rfl Tryd.func10 (by kernel_rfl) rfl #[.int .i64 a0_0, .int .i64 a0_1] rfl (by (try simp only [List.map_toArray, List.map_cons, List.map_nil]); first | done | rfl | (simp only [List.length_drop, List.length_take]; rfl)) ?_; (with_reducible refine (soffitref01_Make.calls k a0_0 a0_1 t179 t180 t181 _ A2.out).mono ?_); rintro e w7 ⟨rfl, hb⟩; refine ⟨_, rfl, ?_⟩; have n0_ := Aside0.mk (blk_below (g := gb178) (o := .cells #[.int .i64 a0_0, .int .i64 a0_1] 23 (0, 0)) (by (with_reducible repeat (first | refine blk_drewN ?_ _ | refine blk_drew ?_ | refine blk_alloc ?_ _)); exact BK178.out) hb); have n1_ := Aside0.mk (below_step (by repeat (first | (with_reducible first | exact HB.out | apply below_alloc | apply pw_below_drewN | apply below_drew1 | refine below_set ?_ GE178.out) | exact HB.out)) hb); clear BK178; clear HB; have BK178 := n0_; have HB := n1_; clear n0_ n1_; (try clear hb); (try clear hb2); (try clear hk); (try clear hi)) | ((with_reducible refine gate_dst (N := 3) rfl ?_); refine box_event ?hg (N := 3) ?hd (cs := #[.int .i64 0, .int .i64 0]) (t := 23) ?hr ?_; (case hd => rfl); (case hg => rfl); (case hr => first | (go_simp; done) | (go_simp; rfl)); intro gb182 hg w8 hbox hb; have n0_ := Aside0.mk (blk_below (g := gb178) (o := .cells #[.int .i64 a0_0, .int .i64 a0_1] 23 (0, 0)) (by (with_reducible repeat (first | refine blk_drewN ?_ _ | refine blk_drew ?_ | refine blk_alloc ?_ _)); exact BK178.out) hb); have n1_ := Aside0.mk (below_step (by repeat (first | (with_reducible first | exact HB.out | apply below_alloc | apply pw_below_drewN | apply below_drew1 | refine below_set ?_ GE178.out) | exact HB.out)) hb); have n2_ := Aside0.mk (hbox); have n3_ := Aside0.mk ((by rw [hg]; exact (below_size (by repeat (first | (with_reducible first | exact HB.out | apply below_alloc | apply pw_below_drewN | apply below_drew1 | refine below_set ?_ GE178.out) | exact HB.out))) : w.heap.size ≤ gb182)); have n4_ := Aside0.mk ((by rw [hg]; exact (below_size (by repeat (first | (with_reducible first | exact HB.out | apply below_alloc | apply pw_below_drewN | apply below_drew1 | refine below_set ?_ GE178.out) | exact HB.out))) : w.heap.size ≤ gb182)); have n5_ := Aside0.mk ((by rw [hg]; exact Nat.ne_of_lt (blk_lt (g := gb178) (o := .cells #[.int .i64 a0_0, .int .i64 a0_1] 23 (0, 0)) (by (with_reducible repeat (first | refine blk_drewN ?_ _ | refine blk_drew ?_ | refine blk_alloc ?_ _)); exact BK178.out)) : gb178 ≠ gb182)); have n6_ := Aside0.mk ((by rw [hg]; exact Nat.ne_of_gt (blk_lt (g := gb178) (o := .cells #[.int .i64 a0_0, .int .i64 a0_1] 23 (0, 0)) (by (with_reducible repeat (first | refine blk_drewN ?_ _ | refine blk_drew ?_ | refine blk_alloc ?_ _)); exact BK178.out)) : gb182 ≠ gb178)); clear BK178; clear HB; have BK178 := n0_; have HB := n1_; have BK182 := n2_; have GW182 := n3_; have GE182 := n4_; have NB178_182 := n5_; have NB182_178 := n6_; clear n0_ n1_ n2_ n3_ n4_ n5_ n6_; clear hb hbox hg; have hnb9 := NB182_178.out; have hnc9 := NB178_182.out; have hcz10_0 : w8.cell? ⟨gb182, 0, none⟩ = some (.int .i64 0) := (blk_cell BK182.out 0).trans rfl; have hcz10_1 : w8.cell? ⟨gb182, 1, none⟩ = some (.int .i64 0) := (blk_cell BK182.out 1).trans rfl; have hfz10_0 := blk_frozen BK182.out 0; have hfz10_1 := blk_frozen BK182.out 1; have hcz11_0 : w8.cell? ⟨gb178, 0, none⟩ = some (.int .i64 a0_0) := (blk_cell BK178.out 0).trans rfl; have hcz11_1 : w8.cell? ⟨gb178, 1, none⟩ = some (.int .i64 a0_1) := (blk_cell BK178.out 1).trans rfl; have hfz11_0 := blk_frozen BK178.out 0; have hfz11_1 := blk_frozen BK178.out 1))
      go_ret
      exact ⟨by first | rfl | (simp [errW_none, errW_some] <;> rfl) | (simp [*, errW_none, errW_some] <;> rfl), by repeat (first | (with_reducible first | exact HB.out | apply below_alloc | apply pw_below_drewN | apply below_drew1 | refine below_set ?_ GE178.out | refine below_set ?_ GE182.out) | exact HB.out)⟩
    · rw [if_neg c4] at H
      have c4b0 : (t179 == a0_0) = false := beq_eq_false_iff_ne.mpr c4
      have c4b1 : (t179 != a0_0) = true := bne_iff_ne.mpr c4
      obtain rfl := Option.some.inj H
      go_enter Tryd.func13, Tryd.ntmps13
      go_wp2_with (first | ((with_reducible refine gate_dst (N := 1) rfl ?_); refine box_event ?hg (N := 1) ?hd (cs := #[.int .i64 a0_0, .int .i64 a0_1]) (t := 23) ?hr ?_; (case hd => rfl); (case hg => rfl); (case hr => first | (go_simp; done) | (go_simp; rfl)); intro gb178 hg w12 hbox hb; have n0_ := Aside0.mk (below_step (by repeat (first | (with_reducible first | exact HB.out | apply below_alloc | apply pw_below_drewN | apply below_drew1) | exact HB.out)) hb); have n1_ := Aside0.mk (hbox); have n2_ := Aside0.mk ((by rw [hg]; exact (below_size (by repeat (first | (with_reducible first | exact HB.out | apply below_alloc | apply pw_below_drewN | apply below_drew1) | exact HB.out))) : w.heap.size ≤ gb178)); have n3_ := Aside0.mk ((by rw [hg]; exact (below_size (by repeat (first | (with_reducible first | exact HB.out | apply below_alloc | apply pw_below_drewN | apply below_drew1) | exact HB.out))) : w.heap.size ≤ gb178)); clear HB; have HB := n0_; have BK178 := n1_; have GW178 := n2_; have GE178 := n3_; clear n0_ n1_ n2_ n3_; clear hb hbox hg; have hcz13_0 : w12.cell? ⟨gb178, 0, none⟩ = some (.int .i64 a0_0) := (blk_cell BK178.out 0).trans rfl; have hcz13_1 : w12.cell? ⟨gb178, 1, none⟩ = some (.int .i64 a0_1) := (blk_cell BK178.out 1).trans rfl; have hfz13_0 := blk_frozen BK178.out 0; have hfz13_1 := blk_frozen BK178.out 1) | ((with_reducible refine gate_callee (f := 10) rfl ?_); refine goesL_ (some 10) rfl rfl Tryd.func10 (by kernel_rfl) rfl #[.int .i64 a0_0, .int .i64 a0_1] rfl (by (try simp only [List.map_toArray, List.map_cons, List.map_nil]); first | done | rfl | (simp only [List.length_drop, List.length_take]; rfl)) ?_; (with_reducible refine (soffitref01_Make.calls k a0_0 a0_1 t179 t180 t181 _ A2.out).mono ?_); rintro e w14 ⟨rfl, hb⟩; refine ⟨_, rfl, ?_⟩; have n0_ := Aside0.mk (blk_below (g := gb178) (o := .cells #[.int .i64 a0_0, .int .i64 a0_1] 23 (0, 0)) (by (with_reducible repeat (first | refine blk_drewN ?_ _ | refine blk_drew ?_ | refine blk_alloc ?_ _)); exact BK178.out) hb); have n1_ := Aside0.mk (below_step (by repeat (first | (with_reducible first | exact HB.out | apply below_alloc | apply pw_below_drewN | apply below_drew1 | refine below_set ?_ GE178.out) | exact HB.out)) hb); clear BK178; clear HB; have BK178 := n0_; have HB := n1_; clear n0_ n1_; (try clear hb); (try clear hb2); (try clear hk); (try clear hi)) | ((with_reducible refine gate_dst (N := 3) rfl ?_); refine box_event ?hg (N := 3) ?hd (cs := #[.int .i64 0, .int .i64 0]) (t := 23) ?hr ?_; (case hd => rfl); (case hg => rfl); (case hr => first | (go_simp; done) | (go_simp; rfl)); intro gb182 hg w15 hbox hb; have n0_ := Aside0.mk (blk_below (g := gb178) (o := .cells #[.int .i64 a0_0, .int .i64 a0_1] 23 (0, 0)) (by (with_reducible repeat (first | refine blk_drewN ?_ _ | refine blk_drew ?_ | refine blk_alloc ?_ _)); exact BK178.out) hb); have n1_ := Aside0.mk (below_step (by repeat (first | (with_reducible first | exact HB.out | apply below_alloc | apply pw_below_drewN | apply below_drew1 | refine below_set ?_ GE178.out) | exact HB.out)) hb); have n2_ := Aside0.mk (hbox); have n3_ := Aside0.mk ((by rw [hg]; exact (below_size (by repeat (first | (with_reducible first | exact HB.out | apply below_alloc | apply pw_below_drewN | apply below_drew1 | refine below_set ?_ GE178.out) | exact HB.out))) : w.heap.size ≤ gb182)); have n4_ := Aside0.mk ((by rw [hg]; exact (below_size (by repeat (first | (with_reducible first | exact HB.out | apply below_alloc | apply pw_below_drewN | apply below_drew1 | refine below_set ?_ GE178.out) | exact HB.out))) : w.heap.size ≤ gb182)); have n5_ := Aside0.mk ((by rw [hg]; exact Nat.ne_of_lt (blk_lt (g := gb178) (o := .cells #[.int .i64 a0_0, .int .i64 a0_1] 23 (0, 0)) (by (with_reducible repeat (first | refine blk_drewN ?_ _ | refine blk_drew ?_ | refine blk_alloc ?_ _)); exact BK178.out)) : gb178 ≠ gb182)); have n6_ := Aside0.mk ((by rw [hg]; exact Nat.ne_of_gt (blk_lt (g := gb178) (o := .cells #[.int .i64 a0_0, .int .i64 a0_1] 23 (0, 0)) (by (with_reducible repeat (first | refine blk_drewN ?_ _ | refine blk_drew ?_ | refine blk_alloc ?_ _)); exact BK178.out)) : gb182 ≠ gb178)); clear BK178; clear HB; have BK178 := n0_; have HB := n1_; have BK182 := n2_; have GW182 := n3_; have GE182 := n4_; have NB178_182 := n5_; have NB182_178 := n6_; clear n0_ n1_ n2_ n3_ n4_ n5_ n6_; clear hb hbox hg; have hnb16 := NB182_178.out; have hnc16 := NB178_182.out; have hcz17_0 : w15.cell? ⟨gb182, 0, none⟩ = some (.int .i64 0) := (blk_cell BK182.out 0).trans rfl; have hcz17_1 : w15.cell? ⟨gb182, 1, none⟩ = some (.int .i64 0) := (blk_cell BK182.out 1).trans rfl; have hfz17_0 := blk_frozen BK182.out 0; have hfz17_1 := blk_frozen BK182.out 1; have hcz18_0 : w15.cell? ⟨gb178, 0, none⟩ = some (.int .i64 a0_0) := (blk_cell BK178.out 0).trans rfl; have hcz18_1 : w15.cell? ⟨gb178, 1, none⟩ = some (.int .i64 a0_1) := (blk_cell BK178.out 1).trans rfl; have hfz18_0 := blk_frozen BK178.out 0; have hfz18_1 := blk_frozen BK178.out 1))
      go_ret
      exact ⟨by first | rfl | (simp [errW_none, errW_some] <;> rfl) | (simp [*, errW_none, errW_some] <;> rfl), by repeat (first | (with_reducible first | exact HB.out | apply below_alloc | apply pw_below_drewN | apply below_drew1 | refine below_set ?_ GE178.out | refine below_set ?_ GE182.out) | exact HB.out)⟩
  · rw [if_neg c3] at H
    have c3b0 : (t181 == 0) = false := beq_eq_false_iff_ne.mpr c3
    have c3b1 : (t181 != 0) = true := bne_iff_ne.mpr c3
    obtain rfl := Option.some.inj H
    go_enter Tryd.func13, Tryd.ntmps13
    go_wp2_with (first | ((with_reducible refine gate_dst (N := 1) rfl ?_); refine box_event ?hg (N := 1) ?hd (cs := #[.int .i64 a0_0, .int .i64 a0_1]) (t := 23) ?hr ?_; (case hd => rfl); (case hg => rfl); (case hr => first | (go_simp; done) | (go_simp; rfl)); intro gb178 hg w19 hbox hb; have n0_ := Aside0.mk (below_step (by repeat (first | (with_reducible first | exact HB.out | apply below_alloc | apply pw_below_drewN | apply below_drew1) | exact HB.out)) hb); have n1_ := Aside0.mk (hbox); have n2_ := Aside0.mk ((by rw [hg]; exact (below_size (by repeat (first | (with_reducible first | exact HB.out | apply below_alloc | apply pw_below_drewN | apply below_drew1) | exact HB.out))) : w.heap.size ≤ gb178)); have n3_ := Aside0.mk ((by rw [hg]; exact (below_size (by repeat (first | (with_reducible first | exact HB.out | apply below_alloc | apply pw_below_drewN | apply below_drew1) | exact HB.out))) : w.heap.size ≤ gb178)); clear HB; have HB := n0_; have BK178 := n1_; have GW178 := n2_; have GE178 := n3_; clear n0_ n1_ n2_ n3_; clear hb hbox hg; have hcz20_0 : w19.cell? ⟨gb178, 0, none⟩ = some (.int .i64 a0_0) := (blk_cell BK178.out 0).trans rfl; have hcz20_1 : w19.cell? ⟨gb178, 1, none⟩ = some (.int .i64 a0_1) := (blk_cell BK178.out 1).trans rfl; have hfz20_0 := blk_frozen BK178.out 0; have hfz20_1 := blk_frozen BK178.out 1) | ((with_reducible refine gate_callee (f := 10) rfl ?_); refine goesL_ (some 10) rfl rfl Tryd.func10 (by kernel_rfl) rfl #[.int .i64 a0_0, .int .i64 a0_1] rfl (by (try simp only [List.map_toArray, List.map_cons, List.map_nil]); first | done | rfl | (simp only [List.length_drop, List.length_take]; rfl)) ?_; (with_reducible refine (soffitref01_Make.calls k a0_0 a0_1 t179 t180 t181 _ A2.out).mono ?_); rintro e w21 ⟨rfl, hb⟩; refine ⟨_, rfl, ?_⟩; have n0_ := Aside0.mk (blk_below (g := gb178) (o := .cells #[.int .i64 a0_0, .int .i64 a0_1] 23 (0, 0)) (by (with_reducible repeat (first | refine blk_drewN ?_ _ | refine blk_drew ?_ | refine blk_alloc ?_ _)); exact BK178.out) hb); have n1_ := Aside0.mk (below_step (by repeat (first | (with_reducible first | exact HB.out | apply below_alloc | apply pw_below_drewN | apply below_drew1 | refine below_set ?_ GE178.out) | exact HB.out)) hb); clear BK178; clear HB; have BK178 := n0_; have HB := n1_; clear n0_ n1_; (try clear hb); (try clear hb2); (try clear hk); (try clear hi)) | ((with_reducible refine gate_dst (N := 3) rfl ?_); refine box_event ?hg (N := 3) ?hd (cs := #[.int .i64 0, .int .i64 0]) (t := 23) ?hr ?_; (case hd => rfl); (case hg => rfl); (case hr => first | (go_simp; done) | (go_simp; rfl)); intro gb182 hg w22 hbox hb; have n0_ := Aside0.mk (blk_below (g := gb178) (o := .cells #[.int .i64 a0_0, .int .i64 a0_1] 23 (0, 0)) (by (with_reducible repeat (first | refine blk_drewN ?_ _ | refine blk_drew ?_ | refine blk_alloc ?_ _)); exact BK178.out) hb); have n1_ := Aside0.mk (below_step (by repeat (first | (with_reducible first | exact HB.out | apply below_alloc | apply pw_below_drewN | apply below_drew1 | refine below_set ?_ GE178.out) | exact HB.out)) hb); have n2_ := Aside0.mk (hbox); have n3_ := Aside0.mk ((by rw [hg]; exact (below_size (by repeat (first | (with_reducible first | exact HB.out | apply below_alloc | apply pw_below_drewN | apply below_drew1 | refine below_set ?_ GE178.out) | exact HB.out))) : w.heap.size ≤ gb182)); have n4_ := Aside0.mk ((by rw [hg]; exact (below_size (by repeat (first | (with_reducible first | exact HB.out | apply below_alloc | apply pw_below_drewN | apply below_drew1 | refine below_set ?_ GE178.out) | exact HB.out))) : w.heap.size ≤ gb182)); have n5_ := Aside0.mk ((by rw [hg]; exact Nat.ne_of_lt (blk_lt (g := gb178) (o := .cells #[.int .i64 a0_0, .int .i64 a0_1] 23 (0, 0)) (by (with_reducible repeat (first | refine blk_drewN ?_ _ | refine blk_drew ?_ | refine blk_alloc ?_ _)); exact BK178.out)) : gb178 ≠ gb182)); have n6_ := Aside0.mk ((by rw [hg]; exact Nat.ne_of_gt (blk_lt (g := gb178) (o := .cells #[.int .i64 a0_0, .int .i64 a0_1] 23 (0, 0)) (by (with_reducible repeat (first | refine blk_drewN ?_ _ | refine blk_drew ?_ | refine blk_alloc ?_ _)); exact BK178.out)) : gb182 ≠ gb178)); clear BK178; clear HB; have BK178 := n0_; have HB := n1_; have BK182 := n2_; have GW182 := n3_; have GE182 := n4_; have NB178_182 := n5_; have NB182_178 := n6_; clear n0_ n1_ n2_ n3_ n4_ n5_ n6_; clear hb hbox hg; have hnb23 := NB182_178.out; have hnc23 := NB178_182.out; have hcz24_0 : w22.cell? ⟨gb182, 0, none⟩ = some (.int .i64 0) := (blk_cell BK182.out 0).trans rfl; have hcz24_1 : w22.cell? ⟨gb182, 1, none⟩ = some (.int .i64 0) := (blk_cell BK182.out 1).trans rfl; have hfz24_0 := blk_frozen BK182.out 0; have hfz24_1 := blk_frozen BK182.out 1))
    go_ret
    exact ⟨by first | rfl | (simp [errW_none, errW_some] <;> rfl) | (simp [*, errW_none, errW_some] <;> rfl), by repeat (first | (with_reducible first | exact HB.out | apply below_alloc | apply pw_below_drewN | apply below_drew1 | refine below_set ?_ GE178.out | refine below_set ?_ GE182.out) | exact HB.out)⟩
end Go.Proofs.YtgkemhgihbfmmaaDoor.PA
end
section
namespace Go.Proofs.YtgkemhgihbfmmaaDoor.PA
open Go.RowKit Go.Proofs.YtgkemhgihbfmmaaDoorW.PrintWords Go.Proofs.YtgkemhgihbfmmaaDoorW.PrintLast Go.Proofs.YtgkemhgihbfmmaaDoorW.PrintMore
attribute [local go_sem] max2_int min2_int max_two min_two max_three min_three max_four min_four
set_option linter.unusedVariables false
set_option linter.unusedSimpArgs false
attribute [local go_sem high] eqA23
def soffitlaw01_DeciMakes.f (k : Nat) (a0 : Int) (a1 : Int) : Option (Bool) := (deci_Make.f k a0 a1).bind fun bt183 => ((soffitref01_Make.f k a0 a1).bind fun bt187 => ((soffitlaw01_awake.f k).bind fun t192 => (if t192 = true then (if (bt183.1 == bt187.1 && (bt183.2.1 == bt187.2.1)) = true then (if bt183.2.2 = bt187.2.2 then ((deci_Sound.f k a0 a1).bind fun t193 => ((soffitref01_Sound.f k a0 a1).bind fun t194 => (some (t193 == t194)))) else (some false)) else (some false)) else (some false))))
theorem soffitlaw01_DeciMakes.mono : ∀ a0 a1 k, LeO (soffitlaw01_DeciMakes.f k a0 a1) (soffitlaw01_DeciMakes.f (k + 1) a0 a1) := by
  intro a0 a1 k
  unfold soffitlaw01_DeciMakes.f
  repeat' first
      | (with_reducible exact deci_Make.mono _ _ _)
      | (with_reducible exact deci_Sound.mono _ _ _)
      | (with_reducible exact soffitlaw01_awake.mono _)
      | (with_reducible exact soffitref01_Make.mono _ _ _)
      | (with_reducible exact soffitref01_Sound.mono _ _ _)
      | (with_reducible exact LeO.refl _)
      | (with_reducible exact LeO.none _)
      | (with_reducible refine LeO.ite ?_ ?_)
      | (with_reducible refine LeO.bind ?_ (fun _ => ?_))
      | exact deci_Make.mono _ _ _
      | exact deci_Sound.mono _ _ _
      | exact soffitlaw01_awake.mono _
      | exact soffitref01_Make.mono _ _ _
      | exact soffitref01_Sound.mono _ _ _
      | exact LeO.none _
      | refine LeO.ite ?_ ?_
      | refine LeO.bind ?_ (fun _ => ?_)
def soffitlaw01_DeciMakes.T4 : Bool × List (List Nat × List Nat) := (true, [([], []), ([0, 0], [0]), ([1], [1]), ([1], [1]), ([2, 3, 1], [1, 2, 3]), ([1, 4], [1, 4]), ([5, 1], [5]), ([6], [6]), ([6], [6]), ([7, 8, 6], [6, 7, 8]), ([6, 9], [6, 9]), ([10, 6], [10]), ([11], [11]), ([12, 11, 11], [11, 12]), ([11], [11]), ([14, 13, 11], [11, 14]), ([13, 15, 11], [11, 13, 15]), ([11, 16], [11, 16]), ([17, 15, 0, 1, 2, 3, 4, 5, 6, 7, 8, 9, 10, 11, 12, 13, 14, 15, 16, 17], [17])])
def soffitlaw01_DeciMakes.B4 : List Nat := [0, 1, 3, 3, 15, 31, 63, 127, 127, 511, 1023, 2047, 4095, 8191, 4095, 32767, 65535, 131071, 262143]
theorem soffitlaw01_DeciMakes.tab4 : rtab .any (opsOf Tryd.f3 4) = soffitlaw01_DeciMakes.T4 := by kernel_rfl
theorem soffitlaw01_DeciMakes.bits4 : waitsOk soffitlaw01_DeciMakes.T4.2 soffitlaw01_DeciMakes.B4 = true := by kernel_rfl
set_option maxHeartbeats 8000000 in
set_option maxRecDepth 100000 in
theorem soffitlaw01_DeciMakes.calls (k : Nat) (a0 : Int) (a1 : Int) (r : Bool) (w : World) (hT : Tabs w) (hr : r = true) (h : soffitlaw01_DeciMakes.f k a0 a1 = some r) :
    Calls Tryd.prog 3 #[.int .i64 a0, .int .i64 a1] w fun e w' => e = .returned (.bool r) ∧ Below w.heap.size w w' := by
  have hu23 := Tryd.underlying23
  have HT := Aside0.mk hT
  clear hT
  have HR := Aside0.mk hr
  clear hr
  have HB := Aside0.mk (Below.refl w.heap.size w)
  have H : ((deci_Make.f k a0 a1).bind fun bt183 => ((soffitref01_Make.f k a0 a1).bind fun bt187 => ((soffitlaw01_awake.f k).bind fun t192 => (if t192 = true then (if (bt183.1 == bt187.1 && (bt183.2.1 == bt187.2.1)) = true then (if bt183.2.2 = bt187.2.2 then ((deci_Sound.f k a0 a1).bind fun t193 => ((soffitref01_Sound.f k a0 a1).bind fun t194 => (some (t193 == t194)))) else (some false)) else (some false)) else (some false))))) = some r := h
  clear h
  replace H := Option.bind_eq_some_iff.mp H
  obtain ⟨⟨t183, t184, t185⟩, A30, H⟩ := H
  replace H : ((soffitref01_Make.f k a0 a1).bind fun bt187 => ((soffitlaw01_awake.f k).bind fun t192 => (if t192 = true then (if (t183 == bt187.1 && (t184 == bt187.2.1)) = true then (if t185 = bt187.2.2 then ((deci_Sound.f k a0 a1).bind fun t193 => ((soffitref01_Sound.f k a0 a1).bind fun t194 => (some (t193 == t194)))) else (some false)) else (some false)) else (some false)))) = some r := H
  have A3 := Aside0.mk A30
  clear A30
  replace H := Option.bind_eq_some_iff.mp H
  obtain ⟨⟨t187, t188, t189⟩, A40, H⟩ := H
  replace H : ((soffitlaw01_awake.f k).bind fun t192 => (if t192 = true then (if (t183 == t187 && (t184 == t188)) = true then (if t185 = t189 then ((deci_Sound.f k a0 a1).bind fun t193 => ((soffitref01_Sound.f k a0 a1).bind fun t194 => (some (t193 == t194)))) else (some false)) else (some false)) else (some false))) = some r := H
  have A4 := Aside0.mk A40
  clear A40
  replace H := Option.bind_eq_some_iff.mp H
  obtain ⟨t192, A50, H⟩ := H
  replace H : (if t192 = true then (if (t183 == t187 && (t184 == t188)) = true then (if t185 = t189 then ((deci_Sound.f k a0 a1).bind fun t193 => ((soffitref01_Sound.f k a0 a1).bind fun t194 => (some (t193 == t194)))) else (some false)) else (some false)) else (some false)) = some r := H
  have A5 := Aside0.mk A50
  clear A50
  by_cases c6 : t192 = true
  · subst c6
    have H1 : (if (t183 == t187 && (t184 == t188)) = true then (if t185 = t189 then ((deci_Sound.f k a0 a1).bind fun t193 => ((soffitref01_Sound.f k a0 a1).bind fun t194 => (some (t193 == t194)))) else (some false)) else (some false)) = some r := by rw [if_pos rfl] at H; exact H
    clear H
    have H := H1
    clear H1
    by_cases c7 : (t183 == t187 && (t184 == t188)) = true
    · rw [if_pos c7] at H
      have c7b0 : (t183 == t187 && (t184 == t188)) = true := c7
      (try (have c7b1 : decide (t183 = t187 && (t184 == t188)) = true := by simpa using c7))
      (try (have c7b2 : (t183 == t187 && (t184 == t188)) = true := by simpa using c7))
      clear c7
      by_cases c8 : t185 = t189
      · rw [if_pos c8] at H
        have c8b0 : (t185 == t189) = true := beq_iff_eq.mpr c8
        have c8b1 : (t185 != t189) = false := bne_eq_false_iff_eq.mpr c8
        clear c8
        replace H := Option.bind_eq_some_iff.mp H
        obtain ⟨t193, A90, H⟩ := H
        replace H : ((soffitref01_Sound.f k a0 a1).bind fun t194 => (some (t193 == t194))) = some r := H
        have A9 := Aside0.mk A90
        clear A90
        replace H := Option.bind_eq_some_iff.mp H
        obtain ⟨t194, A100, H⟩ := H
        replace H : (some (t193 == t194)) = some r := H
        have A10 := Aside0.mk A100
        clear A100
        obtain rfl := Option.some.inj H
        go_enter Tryd.func3, Tryd.ntmps3
        try go_wp2_with (first | ((with_reducible refine gate_callee (f := 9) rfl ?_); refine goesL_ (some 13) rfl rfl Tryd.func9 (by kernel_rfl) rfl #[.int .i64 a0, .int .i64 a1] rfl (by (try simp only [List.map_toArray, List.map_cons, List.map_nil]); first | done | rfl | (simp only [List.length_drop, List.length_take]; rfl)) ?_; (with_reducible refine (deci_Make.calls k a0 a1 t183 t184 t185 _ A3.out).mono ?_); rintro e w11 ⟨rfl, hb⟩; refine ⟨_, rfl, ?_⟩; have n0_ := Aside0.mk (below_step (by repeat (first | (with_reducible first | exact HB.out | apply below_alloc | apply pw_below_drewN | apply below_drew1) | exact HB.out)) hb); clear HB; have HB := n0_; clear n0_; (try clear hb); (try clear hb2); (try clear hk); (try clear hi)) | ((with_reducible refine gate_dst (N := 5) rfl ?_); refine box_event ?hg (N := 5) ?hd (cs := #[.int .i64 0, .int .i64 0]) (t := 23) ?hr ?_; (case hd => rfl); (case hg => rfl); (case hr => first | (go_simp; done) | (go_simp; rfl)); intro gb186 hg w12 hbox hb; have n0_ := Aside0.mk (below_step (by repeat (first | (with_reducible first | exact HB.out | apply below_alloc | apply pw_below_drewN | apply below_drew1) | exact HB.out)) hb); have n1_ := Aside0.mk (hbox); have n2_ := Aside0.mk ((by rw [hg]; exact (below_size (by repeat (first | (with_reducible first | exact HB.out | apply below_alloc | apply pw_below_drewN | apply below_drew1) | exact HB.out))) : w.heap.size ≤ gb186)); have n3_ := Aside0.mk ((by rw [hg]; exact (below_size (by repeat (first | (with_reducible first | exact HB.out | apply below_alloc | apply pw_below_drewN | apply below_drew1) | exact HB.out))) : w.heap.size ≤ gb186)); clear HB; have HB := n0_; have BK186 := n1_; have GW186 := n2_; have GE186 := n3_; clear n0_ n1_ n2_ n3_; clear hb hbox hg; have hcz13_0 : w12.cell? ⟨gb186, 0, none⟩ = some (.int .i64 0) := (blk_cell BK186.out 0).trans rfl; have hcz13_1 : w12.cell? ⟨gb186, 1, none⟩ = some (.int .i64 0) := (blk_cell BK186.out 1).trans rfl; have hfz13_0 := blk_frozen BK186.out 0; have hfz13_1 := blk_frozen BK186.out 1) | ((with_reducible refine gate_callee (f := 10) rfl ?_); refine goesL_ (some 19) rfl rfl Tryd.func10 (by kernel_rfl) rfl #[.int .i64 a0, .int .i64 a1] rfl (by (try simp only [List.map_toArray, List.map_cons, List.map_nil]); first | done | rfl | (simp only [List.length_drop, List.length_take]; rfl)) ?_; (with_reducible refine (soffitref01_Make.calls k a0 a1 t187 t188 t189 _ A4.out).mono ?_); rintro e w14 ⟨rfl, hb⟩; refine ⟨_, rfl, ?_⟩; have n0_ := Aside0.mk (blk_below (g := gb186) (o := .cells #[.int .i64 t183, .int .i64 t184] 23 (0, 0)) (by (with_reducible repeat (first | refine blk_drewN ?_ _ | refine blk_drew ?_ | refine blk_alloc ?_ _)); refine blk_put (cs := #[.int .i64 t183, .int .i64 0]) ?_ 1 _ rfl; (with_reducible repeat (first | refine blk_drewN ?_ _ | refine blk_drew ?_ | refine blk_alloc ?_ _)); refine blk_put (cs := #[.int .i64 0, .int .i64 0]) ?_ 0 _ rfl; (with_reducible repeat (first | refine blk_drewN ?_ _ | refine blk_drew ?_ | refine blk_alloc ?_ _)); exact BK186.out) hb); have n1_ := Aside0.mk (below_step (by repeat (first | (with_reducible first | exact HB.out | apply below_alloc | apply pw_below_drewN | apply below_drew1 | refine below_set ?_ GE186.out) | exact HB.out)) hb); clear BK186; clear HB; have BK186 := n0_; have HB := n1_; clear n0_ n1_; (try clear hb); (try clear hb2); (try clear hk); (try clear hi)) | ((with_reducible refine gate_dst (N := 7) rfl ?_); refine box_event ?hg (N := 7) ?hd (cs := #[.int .i64 0, .int .i64 0]) (t := 23) ?hr ?_; (case hd => rfl); (case hg => rfl); (case hr => first | (go_simp; done) | (go_simp; rfl)); intro gb190 hg w15 hbox hb; have n0_ := Aside0.mk (blk_below (g := gb186) (o := .cells #[.int .i64 t183, .int .i64 t184] 23 (0, 0)) (by (with_reducible repeat (first | refine blk_drewN ?_ _ | refine blk_drew ?_ | refine blk_alloc ?_ _)); exact BK186.out) hb); have n1_ := Aside0.mk (below_step (by repeat (first | (with_reducible first | exact HB.out | apply below_alloc | apply pw_below_drewN | apply below_drew1 | refine below_set ?_ GE186.out) | exact HB.out)) hb); have n2_ := Aside0.mk (hbox); have n3_ := Aside0.mk ((by rw [hg]; exact (below_size (by repeat (first | (with_reducible first | exact HB.out | apply below_alloc | apply pw_below_drewN | apply below_drew1 | refine below_set ?_ GE186.out) | exact HB.out))) : w.heap.size ≤ gb190)); have n4_ := Aside0.mk ((by rw [hg]; exact (below_size (by repeat (first | (with_reducible first | exact HB.out | apply below_alloc | apply pw_below_drewN | apply below_drew1 | refine below_set ?_ GE186.out) | exact HB.out))) : w.heap.size ≤ gb190)); have n5_ := Aside0.mk ((by rw [hg]; exact Nat.ne_of_lt (blk_lt (g := gb186) (o := .cells #[.int .i64 t183, .int .i64 t184] 23 (0, 0)) (by (with_reducible repeat (first | refine blk_drewN ?_ _ | refine blk_drew ?_ | refine blk_alloc ?_ _)); exact BK186.out)) : gb186 ≠ gb190)); have n6_ := Aside0.mk ((by rw [hg]; exact Nat.ne_of_gt (blk_lt (g := gb186) (o := .cells #[.int .i64 t183, .int .i64 t184] 23 (0, 0)) (by (with_reducible repeat (first | refine blk_drewN ?_ _ | refine blk_drew ?_ | refine blk_alloc ?_ _)); exact BK186.out)) : gb190 ≠ gb186)); clear BK186; clear HB; have BK186 := n0_; have HB := n1_; have BK190 := n2_; have GW190 := n3_; have GE190 := n4_; have NB186_190 := n5_; have NB190_186 := n6_; clear n0_ n1_ n2_ n3_ n4_ n5_ n6_; clear hb hbox hg; have hnb16 := NB190_186.out; have hnc16 := NB186_190.out; have hcz17_0 : w15.cell? ⟨gb190, 0, none⟩ = some (.int .i64 0) := (blk_cell BK190.out 0).trans rfl; have hcz17_1 : w15.cell? ⟨gb190, 1, none⟩ = some (.int .i64 0) := (blk_cell BK190.out 1).trans rfl; have hfz17_0 := blk_frozen BK190.out 0; have hfz17_1 := blk_frozen BK190.out 1) | ((with_reducible refine gate_dst (N := 9) rfl ?_); refine box_event ?hg (N := 9) ?hd (cs := #[.int .i64 0, .int .i64 0]) (t := 23) ?hr ?_; (case hd => rfl); (case hg => rfl); (case hr => first | (go_simp; done) | (go_simp; rfl)); intro gb191 hg w18 hbox hb; have n0_ := Aside0.mk (blk_below (g := gb186) (o := .cells #[.int .i64 t183, .int .i64 t184] 23 (0, 0)) (by (with_reducible repeat (first | refine blk_drewN ?_ _ | refine blk_drew ?_ | refine blk_alloc ?_ _)); refine blk_far ?_ NB186_190.out _; (with_reducible repeat (first | refine blk_drewN ?_ _ | refine blk_drew ?_ | refine blk_alloc ?_ _)); refine blk_far ?_ NB186_190.out _; (with_reducible repeat (first | refine blk_drewN ?_ _ | refine blk_drew ?_ | refine blk_alloc ?_ _)); exact BK186.out) hb); have n1_ := Aside0.mk (blk_below (g := gb190) (o := .cells #[.int .i64 t187, .int .i64 t188] 23 (0, 0)) (by (with_reducible repeat (first | refine blk_drewN ?_ _ | refine blk_drew ?_ | refine blk_alloc ?_ _)); refine blk_put (cs := #[.int .i64 t187, .int .i64 0]) ?_ 1 _ rfl; (with_reducible repeat (first | refine blk_drewN ?_ _ | refine blk_drew ?_ | refine blk_alloc ?_ _)); refine blk_put (cs := #[.int .i64 0, .int .i64 0]) ?_ 0 _ rfl; (with_reducible repeat (first | refine blk_drewN ?_ _ | refine blk_drew ?_ | refine blk_alloc ?_ _)); exact BK190.out) hb); have n2_ := Aside0.mk (below_step (by repeat (first | (with_reducible first | exact HB.out | apply below_alloc | apply pw_below_drewN | apply below_drew1 | refine below_set ?_ GE186.out | refine below_set ?_ GE190.out) | exact HB.out)) hb); have n3_ := Aside0.mk (hbox); have n4_ := Aside0.mk ((by rw [hg]; exact (below_size (by repeat (first | (with_reducible first | exact HB.out | apply below_alloc | apply pw_below_drewN | apply below_drew1 | refine below_set ?_ GE186.out | refine below_set ?_ GE190.out) | exact HB.out))) : w.heap.size ≤ gb191)); have n5_ := Aside0.mk ((by rw [hg]; exact (below_size (by repeat (first | (with_reducible first | exact HB.out | apply below_alloc | apply pw_below_drewN | apply below_drew1 | refine below_set ?_ GE186.out | refine below_set ?_ GE190.out) | exact HB.out))) : w.heap.size ≤ gb191)); have n6_ := Aside0.mk ((by rw [hg]; exact Nat.ne_of_lt (blk_lt (g := gb186) (o := .cells #[.int .i64 t183, .int .i64 t184] 23 (0, 0)) (by (with_reducible repeat (first | refine blk_drewN ?_ _ | refine blk_drew ?_ | refine blk_alloc ?_ _)); refine blk_far ?_ NB186_190.out _; (with_reducible repeat (first | refine blk_drewN ?_ _ | refine blk_drew ?_ | refine blk_alloc ?_ _)); refine blk_far ?_ NB186_190.out _; (with_reducible repeat (first | refine blk_drewN ?_ _ | refine blk_drew ?_ | refine blk_alloc ?_ _)); exact BK186.out)) : gb186 ≠ gb191)); have n7_ := Aside0.mk ((by rw [hg]; exact Nat.ne_of_gt (blk_lt (g := gb186) (o := .cells #[.int .i64 t183, .int .i64 t184] 23 (0, 0)) (by (with_reducible repeat (first | refine blk_drewN ?_ _ | refine blk_drew ?_ | refine blk_alloc ?_ _)); refine blk_far ?_ NB186_190.out _; (with_reducible repeat (first | refine blk_drewN ?_ _ | refine blk_drew ?_ | refine blk_alloc ?_ _)); refine blk_far ?_ NB186_190.out _; (with_reducible repeat (first | refine blk_drewN ?_ _ | refine blk_drew ?_ | refine blk_alloc ?_ _)); exact BK186.out)) : gb191 ≠ gb186)); have n8_ := Aside0.mk ((by rw [hg]; exact Nat.ne_of_lt (blk_lt (g := gb190) (o := .cells #[.int .i64 t187, .int .i64 t188] 23 (0, 0)) (by (with_reducible repeat (first | refine blk_drewN ?_ _ | refine blk_drew ?_ | refine blk_alloc ?_ _)); refine blk_put (cs := #[.int .i64 t187, .int .i64 0]) ?_ 1 _ rfl; (with_reducible repeat (first | refine blk_drewN ?_ _ | refine blk_drew ?_ | refine blk_alloc ?_ _)); refine blk_put (cs := #[.int .i64 0, .int .i64 0]) ?_ 0 _ rfl; (with_reducible repeat (first | refine blk_drewN ?_ _ | refine blk_drew ?_ | refine blk_alloc ?_ _)); exact BK190.out)) : gb190 ≠ gb191)); have n9_ := Aside0.mk ((by rw [hg]; exact Nat.ne_of_gt (blk_lt (g := gb190) (o := .cells #[.int .i64 t187, .int .i64 t188] 23 (0, 0)) (by (with_reducible repeat (first | refine blk_drewN ?_ _ | refine blk_drew ?_ | refine blk_alloc ?_ _)); refine blk_put (cs := #[.int .i64 t187, .int .i64 0]) ?_ 1 _ rfl; (with_reducible repeat (first | refine blk_drewN ?_ _ | refine blk_drew ?_ | refine blk_alloc ?_ _)); refine blk_put (cs := #[.int .i64 0, .int .i64 0]) ?_ 0 _ rfl; (with_reducible repeat (first | refine blk_drewN ?_ _ | refine blk_drew ?_ | refine blk_alloc ?_ _)); exact BK190.out)) : gb191 ≠ gb190)); clear BK186; clear BK190; clear HB; have BK186 := n0_; have BK190 := n1_; have HB := n2_; have BK191 := n3_; have GW191 := n4_; have GE191 := n5_; have NB186_191 := n6_; have NB191_186 := n7_; have NB190_191 := n8_; have NB191_190 := n9_; clear n0_ n1_ n2_ n3_ n4_ n5_ n6_ n7_ n8_ n9_; clear hb hbox hg; have hnb19 := NB191_186.out; have hnc19 := NB186_191.out; have hnb20 := NB191_190.out; have hnc20 := NB190_191.out; have hcz21_0 : w18.cell? ⟨gb191, 0, none⟩ = some (.int .i64 0) := (blk_cell BK191.out 0).trans rfl; have hcz21_1 : w18.cell? ⟨gb191, 1, none⟩ = some (.int .i64 0) := (blk_cell BK191.out 1).trans rfl; have hfz21_0 := blk_frozen BK191.out 0; have hfz21_1 := blk_frozen BK191.out 1))
        have n0_ : Aside0 (((w18.setCell ⟨gb191, 0, none⟩ (.int .i64 a0)).setCell ⟨gb191, 1, none⟩ (.int .i64 a1)).heap[gb186]? = some (.cells #[.int .i64 t183, .int .i64 t184] 23 (0, 0))) := ⟨by (with_reducible repeat (first | refine blk_drewN ?_ _ | refine blk_drew ?_ | refine blk_alloc ?_ _)); refine blk_far ?_ NB186_191.out _; (with_reducible repeat (first | refine blk_drewN ?_ _ | refine blk_drew ?_ | refine blk_alloc ?_ _)); refine blk_far ?_ NB186_191.out _; (with_reducible repeat (first | refine blk_drewN ?_ _ | refine blk_drew ?_ | refine blk_alloc ?_ _)); exact BK186.out⟩
        have n1_ : Aside0 (((w18.setCell ⟨gb191, 0, none⟩ (.int .i64 a0)).setCell ⟨gb191, 1, none⟩ (.int .i64 a1)).heap[gb190]? = some (.cells #[.int .i64 t187, .int .i64 t188] 23 (0, 0))) := ⟨by (with_reducible repeat (first | refine blk_drewN ?_ _ | refine blk_drew ?_ | refine blk_alloc ?_ _)); refine blk_far ?_ NB190_191.out _; (with_reducible repeat (first | refine blk_drewN ?_ _ | refine blk_drew ?_ | refine blk_alloc ?_ _)); refine blk_far ?_ NB190_191.out _; (with_reducible repeat (first | refine blk_drewN ?_ _ | refine blk_drew ?_ | refine blk_alloc ?_ _)); exact BK190.out⟩
        have n2_ : Aside0 (((w18.setCell ⟨gb191, 0, none⟩ (.int .i64 a0)).setCell ⟨gb191, 1, none⟩ (.int .i64 a1)).heap[gb191]? = some (.cells #[.int .i64 a0, .int .i64 a1] 23 (0, 0))) := ⟨by (with_reducible repeat (first | refine blk_drewN ?_ _ | refine blk_drew ?_ | refine blk_alloc ?_ _)); refine blk_put (cs := #[.int .i64 a0, .int .i64 0]) ?_ 1 _ rfl; (with_reducible repeat (first | refine blk_drewN ?_ _ | refine blk_drew ?_ | refine blk_alloc ?_ _)); refine blk_put (cs := #[.int .i64 0, .int .i64 0]) ?_ 0 _ rfl; (with_reducible repeat (first | refine blk_drewN ?_ _ | refine blk_drew ?_ | refine blk_alloc ?_ _)); exact BK191.out⟩
        have n3_ : Aside0 (Below w.heap.size w ((w18.setCell ⟨gb191, 0, none⟩ (.int .i64 a0)).setCell ⟨gb191, 1, none⟩ (.int .i64 a1))) := ⟨by repeat (first | (with_reducible first | exact HB.out | apply below_alloc | apply pw_below_drewN | apply below_drew1 | refine below_set ?_ GE186.out | refine below_set ?_ GE190.out | refine below_set ?_ GE191.out) | exact HB.out)⟩
        (try clear BK186)
        (try clear BK190)
        (try clear BK191)
        (try clear HB)
        generalize ((w18.setCell ⟨gb191, 0, none⟩ (.int .i64 a0)).setCell ⟨gb191, 1, none⟩ (.int .i64 a1)) = w22 at n0_ n1_ n2_ n3_ ⊢
        have BK186 := n0_
        have BK190 := n1_
        have BK191 := n2_
        have HB := n3_
        clear n0_ n1_ n2_ n3_
        have n0_ := Aside0.mk (blk_drew BK186.out)
        have n1_ := Aside0.mk (blk_drew BK190.out)
        have n2_ := Aside0.mk (blk_drew BK191.out)
        have n3_ := Aside0.mk (below_drew1 HB.out)
        clear BK186
        clear BK190
        clear BK191
        clear HB
        have BK186 := n0_
        have BK190 := n1_
        have BK191 := n2_
        have HB := n3_
        clear n0_ n1_ n2_ n3_
        refine start_ (n := 19) (S := fun w' => w'.cell? ⟨gb186, 0, none⟩ = some (.int .i64 t183) ∧ w'.cell? ⟨gb186, 1, none⟩ = some (.int .i64 t184) ∧ w'.cell? ⟨gb190, 0, none⟩ = some (.int .i64 t187) ∧ w'.cell? ⟨gb190, 1, none⟩ = some (.int .i64 t188) ∧ w'.cell? ⟨gb191, 0, none⟩ = some (.int .i64 a0) ∧ w'.cell? ⟨gb191, 1, none⟩ = some (.int .i64 a1)) (ds := []) #[false, false, false, false, false, false, false, false, false, false, false, false, false, false, false, false, false, false, false] (by kernel_rfl) rfl rfl ⟨(blk_cell BK186.out 0).trans rfl, (blk_cell BK186.out 1).trans rfl, (blk_cell BK190.out 0).trans rfl, (blk_cell BK190.out 1).trans rfl, (blk_cell BK191.out 0).trans rfl, (blk_cell BK191.out 1).trans rfl⟩ (fun hHeld => ?_); refine with_tabW soffitlaw01_DeciMakes.tab4 soffitlaw01_DeciMakes.bits4 (fun HT_ HW_ => ?_)
        generalize w22.drew = w23 at BK186 BK190 BK191 HB hHeld ⊢
        refine one_ (i := 0) (N := some 25) #[true, false, false, false, false, false, false, false, false, false, false, false, false, false, false, false, false, false, false] rfl rfl (one_of HT_.out (by kernel_rfl)) (by decide) (fun K hK => ?_)
        refine goes_ Tryd.func11 (by kernel_rfl) rfl #[] (by rfl) rfl rfl (by (try simp only [List.map_toArray, List.map_cons, List.map_nil]); first | done | rfl | (simp only [List.length_drop, List.length_take]; rfl)) ?_
        with_reducible refine (soffitlaw01_awake.calls k  true _ ?side1 A5.out).mono ?_
        (case side1 => exact tabs_of HT.out (by repeat (first | (with_reducible first | exact HB.out | apply below_alloc | apply pw_below_drewN | apply below_drew1 | refine below_set ?_ GE186.out | refine below_set ?_ GE190.out | refine below_set ?_ GE191.out) | exact HB.out)))
        rintro e w24 ⟨rfl, hb⟩
        refine ⟨_, rfl, ?_⟩
        have n0_ := Aside0.mk (blk_below (g := gb186) (o := .cells #[.int .i64 t183, .int .i64 t184] 23 (0, 0)) (by (with_reducible repeat (first | refine blk_drewN ?_ _ | refine blk_drew ?_ | refine blk_alloc ?_ _)); exact BK186.out) hb)
        have n1_ := Aside0.mk (blk_below (g := gb190) (o := .cells #[.int .i64 t187, .int .i64 t188] 23 (0, 0)) (by (with_reducible repeat (first | refine blk_drewN ?_ _ | refine blk_drew ?_ | refine blk_alloc ?_ _)); exact BK190.out) hb)
        have n2_ := Aside0.mk (blk_below (g := gb191) (o := .cells #[.int .i64 a0, .int .i64 a1] 23 (0, 0)) (by (with_reducible repeat (first | refine blk_drewN ?_ _ | refine blk_drew ?_ | refine blk_alloc ?_ _)); exact BK191.out) hb)
        have n3_ := Aside0.mk (below_step (by repeat (first | (with_reducible first | exact HB.out | apply below_alloc | apply pw_below_drewN | apply below_drew1 | refine below_set ?_ GE186.out | refine below_set ?_ GE190.out | refine below_set ?_ GE191.out) | exact HB.out)) hb)
        clear BK186
        clear BK190
        clear BK191
        clear HB
        have BK186 := n0_
        have BK190 := n1_
        have BK191 := n2_
        have HB := n3_
        clear n0_ n1_ n2_ n3_
        (try clear hb)
        (try clear hb2)
        (try clear hk)
        (try clear hi)
        refine hK.out _ _ ⟨(blk_cell BK186.out 0).trans rfl, (blk_cell BK186.out 1).trans rfl, (blk_cell BK190.out 0).trans rfl, (blk_cell BK190.out 1).trans rfl, (blk_cell BK191.out 0).trans rfl, (blk_cell BK191.out 1).trans rfl⟩ (fun hHeld => ?_)
        clear hK K
        refine norm_ (a' := ?_) ?_ ?_
        rotate_left
        · show Act.put _ (some 25) _ = _
          simp only [Act.put, List.setIfInBounds_toArray, List.set_cons_zero, List.set_cons_succ, i64_w, i32_w]
          rfl
        refine pure_ (i := 1) (N := some 26) (v := ?_) (a' := ?_) #[true, true, false, false, false, false, false, false, false, false, false, false, false, false, false, false, false, false, false] rfl rfl (any_of HT_.out (by kernel_rfl)) (fun _ _ _ h => h) (Or.inl ⟨by rfl, ?_⟩) ?_ ?_
        rotate_left
        · intro w'
          go_simp
          with_reducible rfl
        rotate_left
        · simp only [Act.put, List.setIfInBounds_toArray, List.set_cons_zero, List.set_cons_succ, i64_w, i32_w]
          rfl
        refine take_ (i := 2) (N := some 27) (v := ?_) (a' := ?_) #[true, true, true, false, false, false, false, false, false, false, false, false, false, false, false, false, false, false, false] rfl rfl (take_ofW HT_.out HW_.out (by kernel_rfl)) (fun _ _ _ h => h) (Or.inl ⟨by rfl, ?_⟩) hHeld ?_ ?_
        rotate_left
        · rintro w' ⟨s0, s1, s2, s3, s4, s5⟩
          go_simp
          with_reducible rfl
        rotate_left
        · simp only [Act.put, List.setIfInBounds_toArray, List.set_cons_zero, List.set_cons_succ, i64_w, i32_w]
          rfl
        refine take_ (i := 3) (N := some 28) (v := ?_) (a' := ?_) #[true, true, true, true, false, false, false, false, false, false, false, false, false, false, false, false, false, false, false] rfl rfl (take_ofW HT_.out HW_.out (by kernel_rfl)) (fun _ _ _ h => h) (Or.inl ⟨by rfl, ?_⟩) hHeld ?_ ?_
        rotate_left
        · rintro w' ⟨s0, s1, s2, s3, s4, s5⟩
          go_simp
          with_reducible rfl
        rotate_left
        · simp only [Act.put, List.setIfInBounds_toArray, List.set_cons_zero, List.set_cons_succ, i64_w, i32_w]
          rfl
        refine pure_ (i := 4) (N := some 29) (v := ?_) (a' := ?_) #[true, true, true, true, true, false, false, false, false, false, false, false, false, false, false, false, false, false, false] rfl rfl (any_of HT_.out (by kernel_rfl)) (fun _ _ _ h => h) (Or.inl ⟨by rfl, ?_⟩) ?_ ?_
        rotate_left
        · intro w'
          go_simp
          with_reducible rfl
        rotate_left
        · simp only [Act.put, List.setIfInBounds_toArray, List.set_cons_zero, List.set_cons_succ, i64_w, i32_w]
          rfl
        refine pure_ (i := 5) (N := some 30) (v := ?_) (a' := ?_) #[true, true, true, true, true, true, false, false, false, false, false, false, false, false, false, false, false, false, false] rfl rfl (any_of HT_.out (by kernel_rfl)) (fun _ _ _ h => h) (Or.inl ⟨by rfl, ?_⟩) ?_ ?_
        rotate_left
        · intro w'
          go_simp
          with_reducible rfl
        rotate_left
        · simp only [Act.put, List.setIfInBounds_toArray, List.set_cons_zero, List.set_cons_succ, i64_w, i32_w]
          rfl
        refine pure_ (i := 6) (N := some 31) (v := ?_) (a' := ?_) #[true, true, true, true, true, true, true, false, false, false, false, false, false, false, false, false, false, false, false] rfl rfl (any_of HT_.out (by kernel_rfl)) (fun _ _ _ h => h) (Or.inl ⟨by rfl, ?_⟩) ?_ ?_
        rotate_left
        · intro w'
          go_simp
          with_reducible rfl
        rotate_left
        · simp only [Act.put, List.setIfInBounds_toArray, List.set_cons_zero, List.set_cons_succ, i64_w, i32_w]
          rfl
        refine pure_ (i := 7) (N := some 32) (v := ?_) (a' := ?_) #[true, true, true, true, true, true, true, true, false, false, false, false, false, false, false, false, false, false, false] rfl rfl (any_of HT_.out (by kernel_rfl)) (fun _ _ _ h => h) (Or.inl ⟨by rfl, ?_⟩) ?_ ?_
        rotate_left
        · intro w'
          go_simp
          with_reducible rfl
        rotate_left
        · simp only [Act.put, List.setIfInBounds_toArray, List.set_cons_zero, List.set_cons_succ, i64_w, i32_w]
          rfl
        refine pure_ (i := 8) (N := some 33) (v := ?_) (a' := ?_) #[true, true, true, true, true, true, true, true, true, false, false, false, false, false, false, false, false, false, false] rfl rfl (any_of HT_.out (by kernel_rfl)) (fun _ _ _ h => h) (Or.inl ⟨by rfl, ?_⟩) ?_ ?_
        rotate_left
        · intro w'
          go_simp
          with_reducible rfl
        rotate_left
        · simp only [Act.put, List.setIfInBounds_toArray, List.set_cons_zero, List.set_cons_succ, i64_w, i32_w]
          rfl
        refine pure_ (i := 9) (N := some 34) (v := ?_) (a' := ?_) #[true, true, true, true, true, true, true, true, true, true, false, false, false, false, false, false, false, false, false] rfl rfl (any_of HT_.out (by kernel_rfl)) (fun _ _ _ h => h) (Or.inl ⟨by rfl, ?_⟩) ?_ ?_
        rotate_left
        · intro w'
          go_simp
          with_reducible rfl
        rotate_left
        · simp only [Act.put, List.setIfInBounds_toArray, List.set_cons_zero, List.set_cons_succ, i64_w, i32_w]
          rfl
        refine pure_ (i := 10) (N := some 35) (v := ?_) (a' := ?_) #[true, true, true, true, true, true, true, true, true, true, true, false, false, false, false, false, false, false, false] rfl rfl (any_of HT_.out (by kernel_rfl)) (fun _ _ _ h => h) (Or.inl ⟨by rfl, ?_⟩) ?_ ?_
        rotate_left
        · intro w'
          go_simp
          with_reducible rfl
        rotate_left
        · simp only [Act.put, List.setIfInBounds_toArray, List.set_cons_zero, List.set_cons_succ, i64_w, i32_w]
          rfl
        refine pure_ (i := 11) (N := some 36) (v := ?_) (a' := ?_) #[true, true, true, true, true, true, true, true, true, true, true, true, false, false, false, false, false, false, false] rfl rfl (any_of HT_.out (by kernel_rfl)) (fun _ _ _ h => h) (Or.inl ⟨by rfl, ?_⟩) ?_ ?_
        rotate_left
        · intro w'
          go_simp
          with_reducible rfl
        rotate_left
        · simp only [Act.put, List.setIfInBounds_toArray, List.set_cons_zero, List.set_cons_succ, i64_w, i32_w]
          rfl
        refine take_ (i := 12) (N := some 37) (v := ?_) (a' := ?_) #[true, true, true, true, true, true, true, true, true, true, true, true, true, false, false, false, false, false, false] rfl rfl (take_ofW HT_.out HW_.out (by kernel_rfl)) (fun _ _ _ h => h) (Or.inl ⟨by rfl, ?_⟩) hHeld ?_ ?_
        rotate_left
        · rintro w' ⟨s0, s1, s2, s3, s4, s5⟩
          go_simp
          with_reducible rfl
        rotate_left
        · simp only [Act.put, List.setIfInBounds_toArray, List.set_cons_zero, List.set_cons_succ, i64_w, i32_w]
          rfl
        refine take_ (i := 14) (N := some 39) (v := ?_) (a' := ?_) #[true, true, true, true, true, true, true, true, true, true, true, true, true, false, true, false, false, false, false] rfl rfl (take_ofW HT_.out HW_.out (by kernel_rfl)) (fun _ _ _ h => h) (Or.inl ⟨by rfl, ?_⟩) hHeld ?_ ?_
        rotate_left
        · rintro w' ⟨s0, s1, s2, s3, s4, s5⟩
          go_simp
          with_reducible rfl
        rotate_left
        · simp only [Act.put, List.setIfInBounds_toArray, List.set_cons_zero, List.set_cons_succ, i64_w, i32_w]
          rfl
        refine one_ (i := 13) (N := some 38) #[true, true, true, true, true, true, true, true, true, true, true, true, true, true, true, false, false, false, false] rfl rfl (one_of HT_.out (by kernel_rfl)) (by decide) (fun K hK => ?_)
        refine goes_ Tryd.func12 (by kernel_rfl) rfl #[.agg #[.int .i64 a0, .int .i64 a1]] (by rfl) rfl rfl (by (try simp only [List.map_toArray, List.map_cons, List.map_nil]); first | done | rfl | (simp only [List.length_drop, List.length_take]; rfl)) ?_
        with_reducible refine (deci_Sound.calls k a0 a1 t193 _ A9.out).mono ?_
        rintro e w25 ⟨rfl, hb⟩
        refine ⟨_, rfl, ?_⟩
        have n0_ := Aside0.mk (blk_below (g := gb186) (o := .cells #[.int .i64 t183, .int .i64 t184] 23 (0, 0)) (by (with_reducible repeat (first | refine blk_drewN ?_ _ | refine blk_drew ?_ | refine blk_alloc ?_ _)); exact BK186.out) hb)
        have n1_ := Aside0.mk (blk_below (g := gb190) (o := .cells #[.int .i64 t187, .int .i64 t188] 23 (0, 0)) (by (with_reducible repeat (first | refine blk_drewN ?_ _ | refine blk_drew ?_ | refine blk_alloc ?_ _)); exact BK190.out) hb)
        have n2_ := Aside0.mk (blk_below (g := gb191) (o := .cells #[.int .i64 a0, .int .i64 a1] 23 (0, 0)) (by (with_reducible repeat (first | refine blk_drewN ?_ _ | refine blk_drew ?_ | refine blk_alloc ?_ _)); exact BK191.out) hb)
        have n3_ := Aside0.mk (below_step (by repeat (first | (with_reducible first | exact HB.out | apply below_alloc | apply pw_below_drewN | apply below_drew1 | refine below_set ?_ GE186.out | refine below_set ?_ GE190.out | refine below_set ?_ GE191.out) | exact HB.out)) hb)
        clear BK186
        clear BK190
        clear BK191
        clear HB
        have BK186 := n0_
        have BK190 := n1_
        have BK191 := n2_
        have HB := n3_
        clear n0_ n1_ n2_ n3_
        (try clear hb)
        (try clear hb2)
        (try clear hk)
        (try clear hi)
        refine hK.out _ _ ⟨(blk_cell BK186.out 0).trans rfl, (blk_cell BK186.out 1).trans rfl, (blk_cell BK190.out 0).trans rfl, (blk_cell BK190.out 1).trans rfl, (blk_cell BK191.out 0).trans rfl, (blk_cell BK191.out 1).trans rfl⟩ (fun hHeld => ?_)
        clear hK K
        refine norm_ (a' := ?_) ?_ ?_
        rotate_left
        · show Act.put _ (some 38) _ = _
          simp only [Act.put, List.setIfInBounds_toArray, List.set_cons_zero, List.set_cons_succ, i64_w, i32_w]
          rfl
        refine one_ (i := 15) (N := some 40) #[true, true, true, true, true, true, true, true, true, true, true, true, true, true, true, true, false, false, false] rfl rfl (one_of HT_.out (by kernel_rfl)) (by decide) (fun K hK => ?_)
        refine goes_ Tryd.func13 (by kernel_rfl) rfl #[.agg #[.int .i64 a0, .int .i64 a1]] (by rfl) rfl rfl (by (try simp only [List.map_toArray, List.map_cons, List.map_nil]); first | done | rfl | (simp only [List.length_drop, List.length_take]; rfl)) ?_
        with_reducible refine (soffitref01_Sound.calls k a0 a1 t194 _ A10.out).mono ?_
        rintro e w26 ⟨rfl, hb⟩
        refine ⟨_, rfl, ?_⟩
        have n0_ := Aside0.mk (blk_below (g := gb186) (o := .cells #[.int .i64 t183, .int .i64 t184] 23 (0, 0)) (by (with_reducible repeat (first | refine blk_drewN ?_ _ | refine blk_drew ?_ | refine blk_alloc ?_ _)); exact BK186.out) hb)
        have n1_ := Aside0.mk (blk_below (g := gb190) (o := .cells #[.int .i64 t187, .int .i64 t188] 23 (0, 0)) (by (with_reducible repeat (first | refine blk_drewN ?_ _ | refine blk_drew ?_ | refine blk_alloc ?_ _)); exact BK190.out) hb)
        have n2_ := Aside0.mk (blk_below (g := gb191) (o := .cells #[.int .i64 a0, .int .i64 a1] 23 (0, 0)) (by (with_reducible repeat (first | refine blk_drewN ?_ _ | refine blk_drew ?_ | refine blk_alloc ?_ _)); exact BK191.out) hb)
        have n3_ := Aside0.mk (below_step (by repeat (first | (with_reducible first | exact HB.out | apply below_alloc | apply pw_below_drewN | apply below_drew1 | refine below_set ?_ GE186.out | refine below_set ?_ GE190.out | refine below_set ?_ GE191.out) | exact HB.out)) hb)
        clear BK186
        clear BK190
        clear BK191
        clear HB
        have BK186 := n0_
        have BK190 := n1_
        have BK191 := n2_
        have HB := n3_
        clear n0_ n1_ n2_ n3_
        (try clear hb)
        (try clear hb2)
        (try clear hk)
        (try clear hi)
        refine hK.out _ _ ⟨(blk_cell BK186.out 0).trans rfl, (blk_cell BK186.out 1).trans rfl, (blk_cell BK190.out 0).trans rfl, (blk_cell BK190.out 1).trans rfl, (blk_cell BK191.out 0).trans rfl, (blk_cell BK191.out 1).trans rfl⟩ (fun hHeld => ?_)
        clear hK K
        refine norm_ (a' := ?_) ?_ ?_
        rotate_left
        · show Act.put _ (some 40) _ = _
          simp only [Act.put, List.setIfInBounds_toArray, List.set_cons_zero, List.set_cons_succ, i64_w, i32_w]
          rfl
        refine pure_ (i := 16) (N := some 41) (v := ?_) (a' := ?_) #[true, true, true, true, true, true, true, true, true, true, true, true, true, true, true, true, true, false, false] rfl rfl (any_of HT_.out (by kernel_rfl)) (fun _ _ _ h => h) (Or.inl ⟨by rfl, ?_⟩) ?_ ?_
        rotate_left
        · intro w'
          go_simp
          with_reducible rfl
        rotate_left
        · simp only [Act.put, List.setIfInBounds_toArray, List.set_cons_zero, List.set_cons_succ, i64_w, i32_w]
          rfl
        refine pure_ (i := 17) (N := some 42) (v := ?_) (a' := ?_) #[true, true, true, true, true, true, true, true, true, true, true, true, true, true, true, true, true, true, false] rfl rfl (any_of HT_.out (by kernel_rfl)) (fun _ _ _ h => h) (Or.inl ⟨by rfl, ?_⟩) ?_ ?_
        rotate_left
        · intro w'
          go_simp
          with_reducible rfl
        rotate_left
        · simp only [Act.put, List.setIfInBounds_toArray, List.set_cons_zero, List.set_cons_succ, i64_w, i32_w]
          rfl
        refine pure_ (i := 18) (N := some 4) (v := ?_) (a' := ?_) #[true, true, true, true, true, true, true, true, true, true, true, true, true, true, true, true, true, true, true] rfl rfl (any_of HT_.out (by kernel_rfl)) (fun _ _ _ h => h) (Or.inl ⟨by rfl, ?_⟩) ?_ ?_
        rotate_left
        · intro w'
          go_simp
          with_reducible rfl
        rotate_left
        · simp only [Act.put, List.setIfInBounds_toArray, List.set_cons_zero, List.set_cons_succ, i64_w, i32_w]
          rfl
        refine done_ (done_of HT_.out (by kernel_rfl)) ?_
        try go_wp2
        go_ret
        exact ⟨by first | rfl | (simp [errW_none, errW_some] <;> rfl) | (simp [*, errW_none, errW_some] <;> rfl), by repeat (first | (with_reducible first | exact HB.out | apply below_alloc | apply pw_below_drewN | apply below_drew1 | refine below_set ?_ GE186.out | refine below_set ?_ GE190.out | refine below_set ?_ GE191.out) | exact HB.out)⟩
      · rw [if_neg c8] at H
        have c8b0 : (t185 == t189) = false := beq_eq_false_iff_ne.mpr c8
        have c8b1 : (t185 != t189) = true := bne_iff_ne.mpr c8
        exact absurd HR.out (by rw [← Option.some.inj H]; simp)
    · rw [if_neg c7] at H
      have c7b0 : (t183 == t187 && (t184 == t188)) = false := by simpa using c7
      (try (have c7b1 : decide (t183 = t187 && (t184 == t188)) = false := by simpa using c7))
      (try (have c7b2 : (t183 == t187 && (t184 == t188)) = false := by simpa using c7))
      (try (have c7b3 : ¬ (t183 = t187 && (t184 == t188)) := by simpa using c7))
      clear c7
      exact absurd HR.out (by rw [← Option.some.inj H]; simp)
  · replace c6 := Bool.eq_false_iff.mpr c6
    subst c6
    have H1 : (some false) = some r := by rw [if_neg (show ¬ (false = true) by decide)] at H; exact H
    clear H
    have H := H1
    clear H1
    exact absurd HR.out (by rw [← Option.some.inj H]; simp)
end Go.Proofs.YtgkemhgihbfmmaaDoor.PA
end
section
namespace Go.Proofs.YtgkemhgihbfmmaaDoor.M
def sh : Nat → Int → Int × Int
  | 0, n => (n, 0)
  | s + 1, n => if n % 10 = 0 then sh s (n / 10) else (n, (s : Int) + 1)
theorem sh_zero (s : Nat) : sh s 0 = (0, 0) := by
  induction s with
  | zero => rfl
  | succ s ih => simp [sh, ih]
theorem sh_id (s : Nat) (n : Int) (h : s = 0 ∨ n % 10 ≠ 0) : sh s n = (n, (s : Int)) := by
  cases s with
  | zero => rfl
  | succ s =>
    have h' : ¬ n % 10 = 0 := by omega
    simp [sh, h']
theorem sh_neg (s : Nat) : ∀ n : Int, sh s (-n) = (-(sh s n).1, (sh s n).2) := by
  induction s with
  | zero => intro n; rfl
  | succ s ih =>
    intro n
    by_cases h : n % 10 = 0
    · have h2 : (-n) % 10 = 0 := by omega
      have h3 : (-n) / 10 = -(n / 10) := by omega
      simp only [sh, h, h2, if_true, h3, ih]
    · have h2 : ¬ (-n) % 10 = 0 := by omega
      simp only [sh, h, h2, if_false]
theorem sh_spec (s : Nat) : ∀ n : Int, ∃ t : Nat, t ≤ s ∧ (sh s n).2 = ((s - t : Nat) : Int) ∧ n = (sh s n).1 * 10 ^ t ∧ ((sh s n).2 = 0 ∨ (sh s n).1 % 10 ≠ 0) := by
  induction s with
  | zero => intro n; exact ⟨0, Nat.le_refl _, rfl, by simp [sh], .inl rfl⟩
  | succ s ih =>
    intro n
    by_cases h : n % 10 = 0
    · obtain ⟨t, h1, h2, h3, h4⟩ := ih (n / 10)
      refine ⟨t + 1, by omega, ?_, ?_, ?_⟩
      · simp only [sh, h, if_true]; rw [h2]; congr 1; omega
      · simp only [sh, h, if_true]
        have e : n = (n / 10) * 10 := by omega
        rw [Int.pow_succ, ← Int.mul_assoc, ← h3]; exact e
      · simp only [sh, h, if_true]; exact h4
    · refine ⟨0, Nat.zero_le _, ?_, ?_, ?_⟩
      · simp [sh, h]
      · simp [sh, h]
      · simp only [sh, h, if_false]; exact .inr h
theorem sh_nonneg (s : Nat) : ∀ n : Int, 0 ≤ n → 0 ≤ (sh s n).1 ∧ (sh s n).1 ≤ n := by
  induction s with
  | zero => intro n h; simp only [sh]; omega
  | succ s ih =>
    intro n h
    by_cases h1 : n % 10 = 0
    · have := ih (n / 10) (by omega)
      simp only [sh, h1, if_true]; omega
    · simp only [sh, h1, if_false]; omega
theorem sh_le (s : Nat) : ∀ n : Int, 0 ≤ (sh s n).2 ∧ (sh s n).2 ≤ s := by
  intro n; obtain ⟨t, h1, h2, _, _⟩ := sh_spec s n; rw [h2]; omega
theorem sh_pow (s t : Nat) (n : Int) : sh (s + t) (n * 10 ^ t) = sh s n := by
  induction t with
  | zero => simp
  | succ t ih =>
    have h1 : (n * 10 ^ (t + 1)) % 10 = 0 := by rw [Int.pow_succ, ← Int.mul_assoc]; exact Int.mul_emod_left _ _
    have h2 : (n * 10 ^ (t + 1)) / 10 = n * 10 ^ t := by rw [Int.pow_succ, ← Int.mul_assoc]; exact Int.mul_ediv_cancel _ (by decide)
    rw [← Nat.add_assoc]; simp only [sh, h1, if_true, h2, ih]
def decS (n : Int) (s : Nat) (m : Bool) : Int × Int × Int :=
  if 999999999999 < (sh s n).1 then (0, 0, 3) else (if m = true then -(sh s n).1 else (sh s n).1, (sh s n).2, 0)
theorem sh_big (s : Nat) : ∀ n : Int, s ≤ 6 → 999999999999 * 1000000 + 1000000 ≤ n → 999999999999 < (sh s n).1 := by
  intro n hs hn
  obtain ⟨t, h1, h2, h3, _⟩ := sh_spec s n
  have hp : (10 : Int) ^ t ≤ 1000000 := by
    have h : t ≤ 6 := by omega
    match t, h with
    | 0, _ | 1, _ | 2, _ | 3, _ | 4, _ | 5, _ | 6, _ => decide
  have hpos : 0 ≤ (10 : Int) ^ t := Int.pow_nonneg (by decide)
  false_or_by_contra
  have h4 : (sh s n).1 ≤ 999999999999 := by omega
  have h5 : 0 ≤ (sh s n).1 := (sh_nonneg s n (by omega)).1
  have h6 : (sh s n).1 * 10 ^ t ≤ 999999999999 * 1000000 := Int.mul_le_mul h4 hp hpos (by decide)
  omega
def Snd (n s : Int) : Prop := 0 ≤ s ∧ s ≤ 6 ∧ -999999999999 ≤ n ∧ n ≤ 999999999999 ∧ (s = 0 ∨ n % 10 ≠ 0)
instance (n s : Int) : Decidable (Snd n s) := by unfold Snd; infer_instance
def mk (n s : Int) : Int × Int × Int :=
  if s < 0 ∨ 6 < s ∨ 999999999999 < n ∨ n < -999999999999 then (0, 0, 3) else ((sh s.toNat n).1, (sh s.toNat n).2, 0)
theorem mk_sound (n s : Int) (h : Snd n s) : mk n s = (n, s, 0) := by
  obtain ⟨h0, h1, h2, h3, h4⟩ := h
  unfold mk; rw [if_neg (by omega)]
  rw [sh_id s.toNat n (by omega)]; simp only [Prod.mk.injEq, and_true, true_and]; omega
theorem mk_unsound (n s : Int) (h : ¬ Snd n s) : ¬ ((mk n s).2.2 = 0 ∧ (mk n s).1 = n ∧ (mk n s).2.1 = s) := by
  unfold mk
  by_cases h1 : s < 0 ∨ 6 < s ∨ 999999999999 < n ∨ n < -999999999999
  · rw [if_pos h1]; simp
  · rw [if_neg h1]
    rintro ⟨_, h2, h3⟩
    apply h
    refine ⟨by omega, by omega, by omega, by omega, ?_⟩
    obtain ⟨t, _, _, _, h4⟩ := sh_spec s.toNat n
    simp only at h2 h3
    rw [h2, h3] at h4; exact h4
theorem decS_sound (n : Int) (s : Nat) (m : Bool) (hn : 0 ≤ n) (hs : s ≤ 6) (h : (decS n s m).2.2 = 0) : Snd (decS n s m).1 (decS n s m).2.1 := by
  unfold decS at h ⊢
  by_cases h1 : 999999999999 < (sh s n).1
  · rw [if_pos h1] at h; simp at h
  · rw [if_neg h1]
    have h2 := sh_nonneg s n hn; have h3 := sh_le s n
    obtain ⟨t, _, _, _, h4⟩ := sh_spec s n
    exact ⟨h3.1, (by have := h3.2; simp only; omega), (by cases m <;> simp <;> omega), (by cases m <;> simp <;> omega), (by cases m <;> simp <;> omega)⟩
def rhe (v b : Int) : Int := if b < 2 * (v % b) ∨ (2 * (v % b) = b ∧ (v / b) % 2 = 1) then v / b + 1 else v / b
theorem rhe_one (v : Int) : rhe v 1 = v := by unfold rhe; rw [if_neg (by omega)]; omega
theorem rhe_nonneg (v b : Int) (hv : 0 ≤ v) (hb : 0 < b) : 0 ≤ rhe v b := by
  have := Int.ediv_nonneg hv (Int.le_of_lt hb); unfold rhe; split <;> omega
theorem rhe_mul (v b c : Int) (hb : 0 < b) (hc : 0 < c) : rhe (v * c) (b * c) = rhe v b := by
  unfold rhe
  have em : v * c % (b * c) = v % b * c := by rw [Int.mul_comm v c, Int.mul_comm b c, Int.mul_emod_mul_of_pos _ _ hc, Int.mul_comm]
  rw [Int.mul_ediv_mul_of_pos_left _ _ hc, em]
  · have e1 : (b * c < 2 * (v % b * c)) ↔ (b < 2 * (v % b)) := by
      rw [← Int.mul_assoc]; exact ⟨fun h => Int.lt_of_mul_lt_mul_right h (Int.le_of_lt hc), fun h => Int.mul_lt_mul_of_pos_right h hc⟩
    have e2 : (2 * (v % b * c) = b * c) ↔ (2 * (v % b) = b) := by
      rw [← Int.mul_assoc]; exact ⟨fun h => Int.eq_of_mul_eq_mul_right (by omega) h, fun h => by rw [h]⟩
    simp only [e1, e2]
theorem rhe_exact (q b : Int) (hb : 0 < b) : rhe (q * b) b = q := by
  unfold rhe; rw [Int.mul_emod_left, Int.mul_ediv_cancel _ (by omega), if_neg (by omega)]
def val : List Int → Int
  | [] => 0
  | d :: l => d + 10 * val l
def Dig (l : List Int) : Prop := ∀ d, d ∈ l → 0 ≤ d ∧ d ≤ 9
theorem Dig.cons {d : Int} {l : List Int} : Dig (d :: l) ↔ (0 ≤ d ∧ d ≤ 9) ∧ Dig l :=
  ⟨fun h => ⟨h d (List.mem_cons_self), fun x hx => h x (List.mem_cons_of_mem _ hx)⟩, fun h x hx => by
    rcases List.mem_cons.1 hx with rfl | hx
    · exact h.1
    · exact h.2 x hx⟩
theorem Dig.nil : Dig [] := fun _ h => by cases h
theorem Dig.drop {l : List Int} (h : Dig l) (k : Nat) : Dig (l.drop k) := fun d hd => h d (List.mem_of_mem_drop hd)
theorem Dig.take {l : List Int} (h : Dig l) (k : Nat) : Dig (l.take k) := fun d hd => h d (List.mem_of_mem_take hd)
theorem Dig.append {l m : List Int} (h : Dig l) (h' : Dig m) : Dig (l ++ m) := fun d hd => (List.mem_append.1 hd).elim (h d) (h' d)
theorem Dig.replicate (n : Nat) : Dig (List.replicate n 0) := fun d hd => by
  have := (List.mem_replicate.1 hd).2; omega
theorem val_nonneg {l : List Int} (h : Dig l) : 0 ≤ val l := by
  induction l with
  | nil => exact Int.le_refl _
  | cons d l ih => have := ih (Dig.cons.1 h).2; have := (Dig.cons.1 h).1; simp only [val]; omega
theorem val_lt {l : List Int} (h : Dig l) : val l < 10 ^ l.length := by
  induction l with
  | nil => decide
  | cons d l ih =>
    have h1 := ih (Dig.cons.1 h).2; have h2 := (Dig.cons.1 h).1
    simp only [val, List.length_cons, Int.pow_succ]; omega
theorem val_append (l m : List Int) : val (l ++ m) = val l + 10 ^ l.length * val m := by
  induction l with
  | nil => simp [val]
  | cons d l ih =>
    simp only [List.cons_append, val, ih, List.length_cons, Int.pow_succ, Int.mul_add]
    rw [Int.mul_comm (10 ^ l.length) 10, Int.mul_assoc]; omega
theorem val_replicate (n : Nat) : val (List.replicate n 0) = 0 := by
  induction n with
  | zero => rfl
  | succ n ih => simp [List.replicate_succ, val, ih]
theorem pow_pos (k : Nat) : (0 : Int) < 10 ^ k := Int.pow_pos (by decide)
theorem val_drop {l : List Int} (h : Dig l) (k : Nat) (hk : k ≤ l.length) : val (l.drop k) = val l / 10 ^ k ∧ val (l.take k) = val l % 10 ^ k := by
  have e := val_append (l.take k) (l.drop k)
  rw [List.take_append_drop] at e
  have hl : (l.take k).length = k := by rw [List.length_take]; omega
  rw [hl] at e
  have h1 := val_nonneg (h.take k); have h2 := val_lt (h.take k); rw [hl] at h2
  have hp := pow_pos k
  rw [e]
  constructor
  · rw [Int.add_mul_ediv_left _ _ (by omega), Int.ediv_eq_zero_of_lt h1 h2]; omega
  · rw [Int.add_mul_emod_self_left]; exact (Int.emod_eq_of_lt h1 h2).symm
def digs : Nat → Int → List Int
  | 0, _ => []
  | c + 1, n => n % 10 :: digs c (n / 10)
theorem digs_length (c : Nat) : ∀ n, (digs c n).length = c := by
  induction c with
  | zero => intro n; rfl
  | succ c ih => intro n; simp [digs, ih]
theorem digs_dig (c : Nat) : ∀ n, Dig (digs c n) := by
  induction c with
  | zero => intro n; exact Dig.nil
  | succ c ih => intro n; exact Dig.cons.2 ⟨by omega, ih _⟩
theorem digs_val (c : Nat) : ∀ n : Int, 0 ≤ n → n < 10 ^ c → val (digs c n) = n := by
  induction c with
  | zero => intro n h0 h1; simp at h1; simp [digs, val]; omega
  | succ c ih =>
    intro n h0 h1
    rw [Int.pow_succ] at h1
    have := ih (n / 10) (by omega) (by omega)
    simp only [digs, val, this]; omega
theorem digs_get (c : Nat) : ∀ (n : Int) (i : Nat), i < c → (digs c n).getD i 0 = n / 10 ^ i % 10 := by
  induction c with
  | zero => intro n i h; omega
  | succ c ih =>
    intro n i h
    cases i with
    | zero => simp [digs]
    | succ i =>
      have := ih (n / 10) i (by omega)
      simp only [digs, List.getD_cons_succ, this]
      rw [Int.ediv_ediv_of_nonneg (by decide), Int.pow_succ, Int.mul_comm]
def addc : Int → List Int → List Int → List Int
  | c, x :: xs, y :: ys => (x + y + c) % 10 :: addc ((x + y + c) / 10) xs ys
  | _, _, _ => []
theorem addc_length : ∀ (a b : List Int) (c : Int), a.length = b.length → (addc c a b).length = a.length
  | [], [], _, _ => rfl
  | x :: xs, y :: ys, c, h => by simp [addc, addc_length xs ys _ (by simpa using h)]
  | [], _ :: _, _, h => by simp at h
  | _ :: _, [], _, h => by simp at h
theorem addc_dig : ∀ (a b : List Int) (c : Int), Dig (addc c a b)
  | [], [], _ => Dig.nil
  | [], _ :: _, _ => Dig.nil
  | _ :: _, [], _ => Dig.nil
  | x :: xs, y :: ys, c => Dig.cons.2 ⟨by omega, addc_dig xs ys _⟩
theorem addc_val : ∀ (a b : List Int) (c : Int), a.length = b.length → val (addc c a b) = (val a + val b + c) % 10 ^ a.length
  | [], [], c, _ => by simp [addc, val]
  | [], _ :: _, _, h => by simp at h
  | _ :: _, [], _, h => by simp at h
  | x :: xs, y :: ys, c, h => by
    have ih := addc_val xs ys ((x + y + c) / 10) (by simpa using h)
    simp only [addc, val, ih, List.length_cons, Int.pow_succ]
    have hp := pow_pos xs.length
    generalize (10 : Int) ^ xs.length = P at hp ih ⊢
    have e : x + 10 * val xs + (y + 10 * val ys) + c = 10 * (val xs + val ys + (x + y + c) / 10) + (x + y + c) % 10 := by omega
    rw [e]
    generalize val xs + val ys + (x + y + c) / 10 = T
    have hr : 0 ≤ (x + y + c) % 10 ∧ (x + y + c) % 10 < 10 := by omega
    generalize (x + y + c) % 10 = r at hr ⊢
    have e2 : 10 * T + r = 10 * (T % P) + r + (P * 10) * (T / P) := by
      have := Int.emod_add_mul_ediv T P
      have e3 : P * 10 * (T / P) = 10 * (P * (T / P)) := by rw [Int.mul_comm P 10, Int.mul_assoc]
      rw [e3]; omega
    have h1 := Int.emod_nonneg T (Int.ne_of_gt hp); have h2 := Int.emod_lt_of_pos T hp
    rw [e2, Int.add_mul_emod_self_left]
    generalize T % P = m at h1 h2 ⊢
    rw [Int.emod_eq_of_lt (by omega) (by omega)]; omega
theorem rhe_digits (v : Int) (c : Nat) (hv : 0 ≤ v) :
    rhe v (10 ^ (c + 1)) = v / 10 ^ (c + 1) + (if 5 < v / 10 ^ c % 10 ∨ (v / 10 ^ c % 10 = 5 ∧ (0 < v % 10 ^ c ∨ v / 10 ^ (c + 1) % 10 % 2 = 1)) then 1 else 0) := by
  have hp := pow_pos c
  unfold rhe
  rw [Int.pow_succ]
  generalize (10 : Int) ^ c = P at hp ⊢
  have e1 : v % (P * 10) = v % P + P * (v / P % 10) := by
    have h1 := Int.emod_add_mul_ediv v P
    have h2 := Int.emod_add_mul_ediv (v / P) 10
    have h3 : v = (v % P + P * (v / P % 10)) + (P * 10) * (v / P / 10) := by
      have e : P * (v / P) = P * (v / P % 10) + P * 10 * (v / P / 10) := by
        rw [Int.mul_assoc, ← Int.mul_add, h2]
      omega
    have h4 := Int.emod_nonneg v (Int.ne_of_gt hp); have h5 := Int.emod_lt_of_pos v hp
    have h6 : 0 ≤ v / P % 10 ∧ v / P % 10 ≤ 9 := by omega
    have h7 : 0 ≤ P * (v / P % 10) := Int.mul_nonneg (by omega) h6.1
    have h8 : P * (v / P % 10) ≤ P * 9 := Int.mul_le_mul_of_nonneg_left h6.2 (by omega)
    have h9 : v % (P * 10) = ((v % P + P * (v / P % 10)) + (P * 10) * (v / P / 10)) % (P * 10) := by rw [← h3]
    rw [h9, Int.add_mul_emod_self_left, Int.emod_eq_of_lt (by omega) (by omega)]
  rw [e1]
  have h4 := Int.emod_nonneg v (Int.ne_of_gt hp); have h5 := Int.emod_lt_of_pos v hp
  have h6 : 0 ≤ v / P % 10 ∧ v / P % 10 ≤ 9 := by omega
  generalize v % P = L at h4 h5 ⊢
  generalize v / P % 10 = h at h6 ⊢
  have ee : v / (P * 10) % 10 % 2 = v / (P * 10) % 2 := by omega
  rw [ee]
  generalize v / (P * 10) = q
  have hh : P * h < P * 5 ∧ P * h ≤ P * 4 ∨ P * h = P * 5 ∧ h = 5 ∨ P * 6 ≤ P * h ∧ 5 < h := by
    rcases Int.lt_trichotomy h 5 with g | g | g
    · exact .inl ⟨Int.mul_lt_mul_of_pos_left g hp, Int.mul_le_mul_of_nonneg_left (by omega) (by omega)⟩
    · exact .inr (.inl ⟨by rw [g], g⟩)
    · exact .inr (.inr ⟨Int.mul_le_mul_of_nonneg_left (by omega) (by omega), g⟩)
  have hlt : P * h ≤ P * 4 → h < 5 := fun g => by
    false_or_by_contra
    have : P * 5 ≤ P * h := Int.mul_le_mul_of_nonneg_left (by omega) (by omega)
    omega
  generalize P * h = Ph at hh hlt ⊢
  rcases hh with ⟨g1, g2⟩ | ⟨g1, g2⟩ | ⟨g1, g2⟩
  · have := hlt g2; rw [if_neg (by omega), if_neg (by omega)]; omega
  · subst g1; subst g2
    by_cases g3 : 0 < L ∨ q % 2 = 1
    · rw [if_pos (by omega), if_pos (by omega)]
    · rw [if_neg (by omega), if_neg (by omega)]; omega
  · rw [if_pos (by omega), if_pos (by omega)]
theorem rhe_long (A by' V rest : Int) (c e : Nat) (hA : 0 ≤ A) (hb : 0 < by') (h : by' * V + rest = A * 10 ^ (c + 2 + e)) (h0 : 0 ≤ rest) (h1 : rest < by') :
    rhe (if 0 < rest ∧ V % 10 = 0 then V + 1 else V) (10 ^ (c + 2)) = rhe (A * 10 ^ e) by' := by
  have hC := pow_pos c
  have hM : A * 10 ^ (c + 2 + e) = (A * 10 ^ e) * (100 * 10 ^ c) := by
    rw [Int.pow_add, Int.pow_add]
    have e2 : (10 : Int) ^ 2 = 100 := by decide
    rw [e2]; ac_rfl
  have hP : (10 : Int) ^ (c + 2) = 100 * 10 ^ c := by
    rw [Int.pow_add]; have e2 : (10 : Int) ^ 2 = 100 := by decide
    rw [e2, Int.mul_comm]
  rw [hM] at h; rw [hP]
  have hm : 0 ≤ A * 10 ^ e := Int.mul_nonneg hA (Int.le_of_lt (pow_pos e))
  generalize (10 : Int) ^ c = C at hC h ⊢
  generalize A * 10 ^ e = m at hm h ⊢
  have hr0 := Int.emod_nonneg m (Int.ne_of_gt hb); have hr1 := Int.emod_lt_of_pos m hb
  have hme := Int.emod_add_mul_ediv m by'
  have hL : by' * (V - m / by' * (100 * C)) + rest = m % by' * (100 * C) := by
    have e1 : by' * (V - m / by' * (100 * C)) = by' * V - by' * (m / by') * (100 * C) := by rw [Int.mul_sub, Int.mul_assoc]
    have e2 : (m % by' + by' * (m / by')) * (100 * C) = m % by' * (100 * C) + by' * (m / by') * (100 * C) := Int.add_mul _ _ _
    rw [hme] at e2; omega
  generalize hq : m / by' = q at hL hme
  generalize hR : m % by' = R at hL hr0 hr1 hme
  generalize hLL : V - q * (100 * C) = L at hL
  have hV : V = L + 100 * C * q := by rw [Int.mul_comm (100 * C) q]; omega
  have hL0 : 0 ≤ L := by
    false_or_by_contra
    have h2 : by' * L ≤ by' * (-1) := Int.mul_le_mul_of_nonneg_left (by omega) (by omega)
    have h3 : 0 ≤ R * (100 * C) := Int.mul_nonneg hr0 (by omega)
    omega
  have hL1 : L < 100 * C := by
    false_or_by_contra
    have h2 : by' * (100 * C) ≤ by' * L := Int.mul_le_mul_of_nonneg_left (by omega) (by omega)
    have h3 : R * (100 * C) ≤ (by' - 1) * (100 * C) := Int.mul_le_mul_of_nonneg_right (by omega) (by omega)
    rw [Int.sub_mul] at h3
    omega
  have hmod : V % 10 = L % 10 := by rw [hV]; have : 100 * C * q = 10 * (10 * (C * q)) := by rw [Int.mul_assoc]; omega
                                    rw [this]; omega
  have hV2 : ∀ z : Int, 0 ≤ z → z < 100 * C → (z + 100 * C * q) / (100 * C) = q ∧ (z + 100 * C * q) % (100 * C) = z := by
    intro z h2 h3
    exact ⟨by rw [Int.add_mul_ediv_left _ _ (by omega), Int.ediv_eq_zero_of_lt h2 h3]; omega, by rw [Int.add_mul_emod_self_left]; exact Int.emod_eq_of_lt h2 h3⟩
  have hcmp1 : 50 * C < L → by' * (50 * C) + by' ≤ by' * L := fun g => by
    have h2 : by' * (50 * C + 1) ≤ by' * L := Int.mul_le_mul_of_nonneg_left (by omega) (by omega)
    rw [Int.mul_add] at h2; omega
  have hcmp2 : L < 50 * C → by' * L + by' ≤ by' * (50 * C) := fun g => by
    have h2 : by' * (L + 1) ≤ by' * (50 * C) := Int.mul_le_mul_of_nonneg_left (by omega) (by omega)
    rw [Int.mul_add] at h2; omega
  have hR2 : R * (100 * C) = 2 * R * (50 * C) := by rw [Int.mul_comm 2 R, Int.mul_assoc]; congr 1; omega
  rw [hR2] at hL
  have g1 : by' < 2 * R → by' * (50 * C) + 50 * C ≤ 2 * R * (50 * C) := fun g => by
    have h2 : (by' + 1) * (50 * C) ≤ 2 * R * (50 * C) := Int.mul_le_mul_of_nonneg_right (by omega) (by omega)
    rw [Int.add_mul] at h2; omega
  have g2 : 2 * R < by' → 2 * R * (50 * C) + 50 * C ≤ by' * (50 * C) := fun g => by
    have h2 : (2 * R + 1) * (50 * C) ≤ by' * (50 * C) := Int.mul_le_mul_of_nonneg_right (by omega) (by omega)
    rw [Int.add_mul] at h2; omega
  have g3 : 2 * R = by' → 2 * R * (50 * C) = by' * (50 * C) := fun g => by rw [g]
  unfold rhe
  rw [hq, hR, hmod]
  by_cases hs : 0 < rest ∧ L % 10 = 0
  · rw [if_pos hs]
    have hz := hV2 (L + 1) (by omega) (by omega)
    have ez : V + 1 = L + 1 + 100 * C * q := by omega
    rw [ez, hz.1, hz.2]
    rcases Int.lt_trichotomy L (50 * C) with k | k | k
    · have := hcmp2 k
      have k2 : 2 * R < by' ∨ 2 * R = by' ∨ by' < 2 * R := by omega
      rcases k2 with k2 | k2 | k2
      · rw [if_neg (by omega), if_neg (by omega)]
      · have := g3 k2; omega
      · have := g1 k2; omega
    · subst k
      have k2 : 2 * R < by' ∨ 2 * R = by' ∨ by' < 2 * R := by omega
      rcases k2 with k2 | k2 | k2
      · have := g2 k2; omega
      · have := g3 k2; omega
      · rw [if_pos (by omega), if_pos (by omega)]
    · have := hcmp1 k
      have k2 : 2 * R < by' ∨ 2 * R = by' ∨ by' < 2 * R := by omega
      rcases k2 with k2 | k2 | k2
      · have := g2 k2; omega
      · have := g3 k2; omega
      · rw [if_pos (by omega), if_pos (by omega)]
  · rw [if_neg hs]
    have hz := hV2 L hL0 hL1
    rw [hV, hz.1, hz.2]
    rcases Int.lt_trichotomy L (50 * C) with k | k | k
    · have := hcmp2 k
      have k2 : 2 * R < by' ∨ 2 * R = by' ∨ by' < 2 * R := by omega
      rcases k2 with k2 | k2 | k2
      · rw [if_neg (by omega), if_neg (by omega)]
      · have := g3 k2; omega
      · have := g1 k2; omega
    · subst k
      have hr : rest = 0 := by omega
      have k2 : 2 * R < by' ∨ 2 * R = by' ∨ by' < 2 * R := by omega
      rcases k2 with k2 | k2 | k2
      · have := g2 k2; omega
      · by_cases o : q % 2 = 1
        · rw [if_pos (by omega), if_pos (by omega)]
        · rw [if_neg (by omega), if_neg (by omega)]
      · have := g1 k2; omega
    · have := hcmp1 k
      have k2 : 2 * R < by' ∨ 2 * R = by' ∨ by' < 2 * R := by omega
      rcases k2 with k2 | k2 | k2
      · have := g2 k2; omega
      · have := g3 k2; omega
      · rw [if_pos (by omega), if_pos (by omega)]
end Go.Proofs.YtgkemhgihbfmmaaDoor.M
end
section
namespace Go.Proofs.YtgkemhgihbfmmaaDoor.PA
open Go.RowKit Go.Proofs.YtgkemhgihbfmmaaDoorW.PrintWords Go.Proofs.YtgkemhgihbfmmaaDoorW.PrintLast Go.Proofs.YtgkemhgihbfmmaaDoorW.PrintMore
open Go.Proofs.YtgkemhgihbfmmaaDoor.M
theorem w64 {x : Int} (h1 : -9223372036854775808 ≤ x) (h2 : x < 9223372036854775808) : wrap64 x = x := by unfold wrap64; omega
theorem wu64 {x : Int} (h1 : 0 ≤ x) (h2 : x < 18446744073709551616) : IntKind.u64.wrap x = x := by rw [IntKind.wrap_u64]; omega
theorem obs {α β : Type} (a : α) (f : α → Option β) : (some a).bind f = f a := by simp
theorem succ_of {k : Nat} (h : 0 < k) : ∃ m, k = m + 1 := ⟨k - 1, by omega⟩
theorem short_l0 (s : Nat) : ∀ (k : Nat) (n : Int), s < k → s ≤ 1000 → 0 ≤ n → n < 18446744073709551616 → deci_form_short.l0 k n s = some (sh s n) := by
  induction s with
  | zero =>
    intro k n hk _ _ _
    obtain ⟨k, rfl⟩ := succ_of (show 0 < k by omega)
    simp only [deci_form_short.l0]; rw [if_neg (by omega)]; rfl
  | succ s ih =>
    intro k n hk hs h0 h1
    obtain ⟨k, rfl⟩ := succ_of (show 0 < k by omega)
    simp only [deci_form_short.l0]
    rw [if_pos (by omega), Int.tmod_eq_emod_of_nonneg h0, Int.tdiv_eq_ediv_of_nonneg h0]
    by_cases h : n % 10 = 0
    · rw [if_pos h, wu64 (by omega) (by omega), w64 (by omega) (by omega), show ((s + 1 : Nat) : Int) - 1 = (s : Int) by omega, ih k (n / 10) (by omega) (by omega) (by omega) (by omega)]
      simp only [sh, h, if_true]
    · rw [if_neg h]; simp only [sh, h, if_false]; rfl
theorem dec_f {k : Nat} {n s : Int} {m : Bool} (hk : 8 ≤ k) (h0 : 0 ≤ n) (h1 : n < 18446744073709551616) (hs0 : 0 ≤ s) (hs : s ≤ 6) :
    deci_form_dec.f k n s m = some (decS n s.toNat m) := by
  obtain ⟨t, rfl⟩ := Int.eq_ofNat_of_zero_le hs0
  unfold deci_form_dec.f deci_form_short.f
  rw [short_l0 t k n (by omega) (by omega) h0 h1]
  simp only [Option.bind_some, Int.toNat_natCast]
  have hb := sh_nonneg t n h0
  unfold decS
  by_cases h : 999999999999 < (sh t n).1
  · rw [if_pos h, if_pos h]
  · rw [if_neg h, if_neg h, w64 (x := (sh t n).1) (by omega) (by omega), w64 (by omega) (by omega)]
    cases m <;> rfl
theorem mx_abs {n : Int} (h1 : -9223372036854775807 ≤ n) (h2 : n < 9223372036854775808) : IntKind.u64.wrap (mx n (wrap64 (-n))) = n.natAbs := by
  rw [w64 (by omega) (by omega)]; unfold mx
  split <;> (rw [wu64 (by omega) (by omega)]; omega)
theorem decS_mk (n s : Int) (h : ¬ (s < 0 ∨ 6 < s ∨ 999999999999 < n ∨ n < -999999999999)) : decS (n.natAbs : Int) s.toNat (decide (n < 0)) = mk n s := by
  unfold decS mk
  rw [if_neg h]
  have hb := sh_nonneg s.toNat (n.natAbs : Int) (by omega)
  rw [if_neg (by omega)]
  by_cases g : n < 0
  · have e : n = -((n.natAbs : Nat) : Int) := by omega
    simp only [g, decide_true, if_true]
    rw [e, sh_neg]; simp
  · have e : ((n.natAbs : Nat) : Int) = n := by omega
    simp only [g, decide_false, Bool.false_eq_true, if_false]
    rw [e]
theorem make_f {k : Nat} (hk : 10 ≤ k) (n s : Int) : deci_Make.f k n s = some (mk n s) := by
  have hj : ∀ b : Bool, b = decide (s < 0 ∨ 6 < s ∨ 999999999999 < n ∨ n < -999999999999) → deci_Make.j0 k n s b = some (mk n s) := by
    intro b hb
    obtain ⟨k, rfl⟩ := succ_of (show 0 < k by omega)
    simp only [deci_Make.j0]
    by_cases h : s < 0 ∨ 6 < s ∨ 999999999999 < n ∨ n < -999999999999
    · rw [if_pos (by rw [hb]; exact decide_eq_true h)]; unfold mk; rw [if_pos h]
    · rw [if_neg (by rw [hb, decide_eq_false h]; simp), mx_abs (by omega) (by omega), dec_f (by omega) (by omega) (by omega) (by omega) (by omega)]
      simp only [Option.bind_some]
      rw [decS_mk n s h]
  unfold deci_Make.f
  by_cases h1 : s < 0
  · rw [if_pos h1]; exact hj _ (decide_eq_true (by omega)).symm
  rw [if_neg h1]
  by_cases h2 : s > 6
  · rw [if_pos h2]; exact hj _ (decide_eq_true (by omega)).symm
  rw [if_neg h2]
  by_cases h3 : n > 999999999999
  · rw [if_pos h3]; exact hj _ (decide_eq_true (by omega)).symm
  rw [if_neg h3]
  exact hj _ (by rw [decide_eq_decide]; omega)
theorem refmake_l0 (s : Nat) : ∀ (k : Nat) (n : Int), s < k → s ≤ 1000 → -9223372036854775808 ≤ n → n < 9223372036854775808 → soffitref01_Make.l0 k n s = some ((sh s n).1, (sh s n).2, 0) := by
  induction s with
  | zero =>
    intro k n hk _ _ _
    obtain ⟨k, rfl⟩ := succ_of (show 0 < k by omega)
    simp only [soffitref01_Make.l0]; rw [if_neg (by omega)]; rfl
  | succ s ih =>
    intro k n hk hs h0 h1
    obtain ⟨k, rfl⟩ := succ_of (show 0 < k by omega)
    simp only [soffitref01_Make.l0]
    rw [if_pos (by omega)]
    have e : Int.tmod n 10 = 0 ↔ n % 10 = 0 := by
      constructor
      · intro h; have := Int.dvd_of_tmod_eq_zero h; omega
      · intro h; exact Int.tmod_eq_zero_of_dvd (by omega)
    by_cases h : n % 10 = 0
    · have hd : Int.tdiv n 10 = n / 10 := Int.tdiv_eq_ediv_of_dvd (by omega)
      rw [if_pos (e.2 h), hd, w64 (by omega) (by omega), w64 (by omega) (by omega), show ((s + 1 : Nat) : Int) - 1 = (s : Int) by omega, ih k (n / 10) (by omega) (by omega) (by omega) (by omega)]
      simp only [sh, h, if_true]
    · rw [if_neg (fun g => h (e.1 g))]; simp only [sh, h, if_false]; rfl
theorem refmake_f {k : Nat} (hk : 10 ≤ k) (n s : Int) : soffitref01_Make.f k n s = some (mk n s) := by
  have hj : ∀ b : Bool, b = decide (s < 0 ∨ 6 < s ∨ 999999999999 < n ∨ n < -999999999999) → soffitref01_Make.j0 k n s b = some (mk n s) := by
    intro b hb
    obtain ⟨k, rfl⟩ := succ_of (show 0 < k by omega)
    simp only [soffitref01_Make.j0]
    by_cases h : s < 0 ∨ 6 < s ∨ 999999999999 < n ∨ n < -999999999999
    · rw [if_pos (by rw [hb]; exact decide_eq_true h)]; unfold mk; rw [if_pos h]
    · rw [if_neg (by rw [hb, decide_eq_false h]; simp)]
      obtain ⟨t, rfl⟩ := Int.eq_ofNat_of_zero_le (show 0 ≤ s by omega)
      rw [refmake_l0 t k n (by omega) (by omega) (by omega) (by omega)]
      unfold mk; rw [if_neg h, Int.toNat_natCast]
  unfold soffitref01_Make.f
  by_cases h1 : s < 0
  · rw [if_pos h1]; exact hj _ (decide_eq_true (by omega)).symm
  rw [if_neg h1]
  by_cases h2 : s > 6
  · rw [if_pos h2]; exact hj _ (decide_eq_true (by omega)).symm
  rw [if_neg h2]
  by_cases h3 : n > 999999999999
  · rw [if_pos h3]; exact hj _ (decide_eq_true (by omega)).symm
  rw [if_neg h3]
  exact hj _ (by rw [decide_eq_decide]; omega)
theorem sound_f {k : Nat} (hk : 10 ≤ k) (n s : Int) : deci_Sound.f k n s = some (decide (Snd n s)) := by
  unfold deci_Sound.f
  rw [make_f hk]; simp only [Option.bind_some]
  by_cases h : Snd n s
  · rw [mk_sound n s h]; simp [h]
  · have hu := mk_unsound n s h
    by_cases e : (mk n s).2.2 = 0
    · rw [if_pos e]; simp only [h, decide_false, Option.some.injEq, Bool.and_eq_false_iff, beq_eq_false_iff_ne]
      by_cases e1 : (mk n s).1 = n
      · right; intro e2; exact hu ⟨e, e1, e2⟩
      · left; exact e1
    · rw [if_neg e]; simp [h]
theorem refsound_f {k : Nat} (hk : 10 ≤ k) (n s : Int) : soffitref01_Sound.f k n s = some (decide (Snd n s)) := by
  unfold soffitref01_Sound.f
  rw [refmake_f hk]; simp only [Option.bind_some]
  by_cases h : Snd n s
  · rw [mk_sound n s h]; simp [h]
  · have hu := mk_unsound n s h
    by_cases e : (mk n s).2.2 = 0
    · rw [if_pos e]
      by_cases e1 : (mk n s).1 = n
      · rw [if_pos e1]; simp only [h, decide_false, Option.some.injEq, beq_eq_false_iff_ne]
        intro e2; exact hu ⟨e, e1, e2⟩
      · rw [if_neg e1]; simp [h]
    · rw [if_neg e]; simp [h]
theorem all_one {k : Nat} (hk : 15 ≤ k) (n s : Int) : deci_all.f k [⟨n, s⟩] = some (if Snd n s then 0 else 2) := by
  obtain ⟨k, rfl⟩ : ∃ m, k = m + 2 := ⟨k - 2, by omega⟩
  unfold deci_all.f
  simp only [deci_all.l0, List.length_singleton]
  have e0 : rd_T23 [(⟨n, s⟩ : S23)] 0 = ⟨n, s⟩ := rfl
  rw [if_pos (by decide), if_pos (by decide), if_pos (by decide), e0, sound_f (by omega)]
  simp only [Option.bind_some, decide_eq_true_eq]
  by_cases h : Snd n s
  · rw [if_pos h, if_pos h, if_neg (by rw [w64 (by decide) (by decide)]; decide)]
  · rw [if_neg h, if_neg h]
theorem all_two {k : Nat} (hk : 15 ≤ k) (n s n' s' : Int) : deci_all.f k [⟨n, s⟩, ⟨n', s'⟩] = some (if Snd n s ∧ Snd n' s' then 0 else 2) := by
  obtain ⟨k, rfl⟩ : ∃ m, k = m + 3 := ⟨k - 3, by omega⟩
  have w1 : wrap64 (0 + 1) = 1 := w64 (by decide) (by decide)
  have w2 : wrap64 (1 + 1) = 2 := w64 (by decide) (by decide)
  unfold deci_all.f
  simp only [deci_all.l0, List.length_cons, List.length_nil, w1, w2]
  have e0 : rd_T23 [(⟨n, s⟩ : S23), ⟨n', s'⟩] 0 = ⟨n, s⟩ := rfl
  have e1 : rd_T23 [(⟨n, s⟩ : S23), ⟨n', s'⟩] 1 = ⟨n', s'⟩ := rfl
  rw [if_pos (by decide), if_pos (by decide), if_pos (by decide), e0, sound_f (by omega)]
  simp only [Option.bind_some, decide_eq_true_eq]
  by_cases h : Snd n s
  · rw [if_pos h, if_pos (by decide), if_pos (by decide), if_pos (by decide), e1, sound_f (by omega)]
    simp only [Option.bind_some, decide_eq_true_eq]
    by_cases h' : Snd n' s'
    · rw [if_pos h', if_neg (by decide)]; simp only [h, h', and_self, if_true]
    · rw [if_neg h']; simp only [h, h', and_false, if_false]
  · rw [if_neg h]; simp only [h, false_and, if_false]
theorem size_f {n s : Int} (h : Snd n s) : deci_size.f n s = some (n.natAbs : Int) := by
  obtain ⟨_, _, h1, h2, _⟩ := h
  unfold deci_size.f; rw [mx_abs (by omega) (by omega)]
theorem power_l0 (d : Nat) : ∀ (k i : Nat), d < k → i + d ≤ 18 → deci_power.l0 k (10 ^ i) ((i + d : Nat) : Int) (i : Int) = some (10 ^ (i + d)) := by
  have hp : ∀ j : Nat, j ≤ 18 → (10 : Int) ^ j ≤ 1000000000000000000 := fun j h => by
    have h1 : (10 : Int) ^ 18 = 10 ^ j * 10 ^ (18 - j) := by rw [← Int.pow_add]; congr 1; omega
    have h2 := pow_pos j; have h3 := pow_pos (18 - j)
    have h4 : 10 ^ j * 1 ≤ (10 : Int) ^ j * 10 ^ (18 - j) := Int.mul_le_mul_of_nonneg_left (by omega) (by omega)
    have h5 : (10 : Int) ^ 18 = 1000000000000000000 := by decide
    omega
  induction d with
  | zero =>
    intro k i hk hi
    obtain ⟨k, rfl⟩ := succ_of (show 0 < k by omega)
    simp only [deci_power.l0]; rw [if_neg (by omega)]; simp
  | succ d ih =>
    intro k i hk hi
    obtain ⟨k, rfl⟩ := succ_of (show 0 < k by omega)
    simp only [deci_power.l0]
    have h1 := hp (i + 1) (by omega); have h2 := pow_pos (i + 1)
    rw [if_pos (by omega), ← Int.pow_succ, wu64 (by omega) (by omega), w64 (by omega) (by omega)]
    have := ih k (i + 1) (by omega) (by omega)
    rw [show ((i + 1 : Nat) : Int) = (i : Int) + 1 by omega, show i + 1 + d = i + (d + 1) by omega] at this
    exact this
theorem power_f {k : Nat} (hk : 20 ≤ k) {n : Int} (h0 : 0 ≤ n) (h1 : n ≤ 18) : deci_power.f k n = some (10 ^ n.toNat) := by
  obtain ⟨t, rfl⟩ := Int.eq_ofNat_of_zero_le h0
  have := power_l0 t k 0 (by omega) (by omega)
  simp only [Nat.zero_add, Int.pow_zero] at this
  unfold deci_power.f; rw [Int.toNat_natCast]; exact this
end Go.Proofs.YtgkemhgihbfmmaaDoor.PA
end
section
namespace Go.Proofs.YtgkemhgihbfmmaaDoor.PA
open Go.RowKit Go.Proofs.YtgkemhgihbfmmaaDoorW.PrintWords Go.Proofs.YtgkemhgihbfmmaaDoorW.PrintLast Go.Proofs.YtgkemhgihbfmmaaDoorW.PrintMore
open Go.Proofs.YtgkemhgihbfmmaaDoor.M
theorem awake_f : soffitlaw01_awake.f 500 = some true := by decide +kernel
theorem deciMakes_true (n s : Int) (_ : -9223372036854775808 ≤ n ∧ n ≤ 9223372036854775807) (_ : -9223372036854775808 ≤ s ∧ s ≤ 9223372036854775807) : soffitlaw01_DeciMakes.f 500 n s = some true := by
  unfold soffitlaw01_DeciMakes.f
  rw [make_f (by omega), refmake_f (by omega), awake_f, sound_f (by omega), refsound_f (by omega)]
  simp
end Go.Proofs.YtgkemhgihbfmmaaDoor.PA
end
