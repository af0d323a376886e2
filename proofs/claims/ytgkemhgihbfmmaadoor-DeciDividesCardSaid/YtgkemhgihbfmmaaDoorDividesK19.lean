/- Part 20 of the proof for Divides: functions of the program as plain Lean functions, their calls, and what they come to. -/
import Derived.Test.YtgkemhgihbfmmaaDoorDividesK16
import Derived.Test.YtgkemhgihbfmmaaDoorDividesK17
import Derived.Test.YtgkemhgihbfmmaaDoorDividesK2
import Derived.Test.YtgkemhgihbfmmaaDoorDividesK18
section
namespace Go.Proofs.YtgkemhgihbfmmaaDoor.PA
open Go.RowKit Go.Proofs.YtgkemhgihbfmmaaDoorW.PrintWords Go.Proofs.YtgkemhgihbfmmaaDoorW.PrintLast Go.Proofs.YtgkemhgihbfmmaaDoorW.PrintMore
attribute [local go_sem] max2_int min2_int max_two min_two max_three min_three max_four min_four
set_option linter.unusedVariables false
set_option linter.unusedSimpArgs false
mutual
def soffitref01_Text.l0 : Nat → Int → ByteArray → Int → Int → Int → Option (ByteArray × Int)
  | 0, _, _, _, _, _ => none
  | k + 1, x4, x5, x6, x270000, x270001 => if x6 < x270001 then ((some (([(wrap64 (48 + (Int.tmod x4 10))) % 256] : List Int) : List Int)).bind fun y272 => (if (strOfNums y272).size + x5.size ≤ 9223372036854775807 then (soffitref01_Text.l0 k (wrap64 (Int.tdiv x4 10)) ((strOfNums y272) ++ x5) (wrap64 (x6 + 1)) x270000 x270001) else (none))) else (if x270001 > 0 then (if 1 + x5.size ≤ 9223372036854775807 then (soffitref01_Text.j1 k x4 ((⟨#[46]⟩ : ByteArray) ++ x5) x270000 x270001) else (none)) else (soffitref01_Text.j1 k x4 x5 x270000 x270001))
def soffitref01_Text.j1 : Nat → Int → ByteArray → Int → Int → Option (ByteArray × Int)
  | 0, _, _, _, _ => none
  | k + 1, x4, x5, x270000, x270001 => (some (([(wrap64 (48 + (Int.tmod x4 10))) % 256] : List Int) : List Int)).bind fun y275 => (if (strOfNums y275).size + x5.size ≤ 9223372036854775807 then (soffitref01_Text.l1 k x4 ((strOfNums y275) ++ x5) x270000 x270001) else (none))
def soffitref01_Text.l1 : Nat → Int → ByteArray → Int → Int → Option (ByteArray × Int)
  | 0, _, _, _, _ => none
  | k + 1, x4, x5, x270000, x270001 => if x4 ≥ 10 then ((some (([(wrap64 (48 + (Int.tmod (wrap64 (Int.tdiv x4 10)) 10))) % 256] : List Int) : List Int)).bind fun y278 => (if (strOfNums y278).size + x5.size ≤ 9223372036854775807 then (soffitref01_Text.l1 k (wrap64 (Int.tdiv x4 10)) ((strOfNums y278) ++ x5) x270000 x270001) else (none))) else (if x270000 < 0 then (if 1 + x5.size ≤ 9223372036854775807 then (some ((⟨#[45]⟩ : ByteArray) ++ x5, 0)) else (none)) else (some (x5, 0)))
end
def soffitref01_Text.f (k : Nat) (a0_0 : Int) (a0_1 : Int) : Option (ByteArray × Int) := (soffitref01_Sound.f k a0_0 a0_1).bind fun t270 => (if t270 = true then ((soffitref01_size.f a0_0).bind fun t271 => (soffitref01_Text.l0 k t271 (⟨#[]⟩ : ByteArray) 0 a0_0 a0_1)) else (some ((⟨#[]⟩ : ByteArray), 2)))
theorem soffitref01_Text.mono_l : ∀ k, (∀ y0 y1 y2 y3 y4, LeO (soffitref01_Text.l0 k y0 y1 y2 y3 y4) (soffitref01_Text.l0 (k + 1) y0 y1 y2 y3 y4)) ∧ (∀ y0 y1 y2 y3, LeO (soffitref01_Text.j1 k y0 y1 y2 y3) (soffitref01_Text.j1 (k + 1) y0 y1 y2 y3)) ∧ (∀ y0 y1 y2 y3, LeO (soffitref01_Text.l1 k y0 y1 y2 y3) (soffitref01_Text.l1 (k + 1) y0 y1 y2 y3))
  | 0 => ⟨fun _ _ _ _ _ r h => by simp [soffitref01_Text.l0] at h, fun _ _ _ _ r h => by simp [soffitref01_Text.j1] at h, fun _ _ _ _ r h => by simp [soffitref01_Text.l1] at h⟩
  | k + 1 => by
    obtain ⟨ih0, ih1, ih2⟩ := soffitref01_Text.mono_l k
    refine ⟨?_, ?_, ?_⟩
    · intro y0 y1 y2 y3 y4
      unfold soffitref01_Text.l0
      repeat' first
      | (with_reducible exact ih0 _ _ _ _ _)
      | (with_reducible exact ih1 _ _ _ _)
      | (with_reducible exact ih2 _ _ _ _)
      | (with_reducible exact soffitref01_Sound.mono _ _ _)
      | (with_reducible exact LeO.refl _)
      | (with_reducible exact LeO.none _)
      | (with_reducible refine LeO.ite ?_ ?_)
      | (with_reducible refine LeO.bind ?_ (fun _ => ?_))
      | exact ih0 _ _ _ _ _
      | exact ih1 _ _ _ _
      | exact ih2 _ _ _ _
      | exact soffitref01_Sound.mono _ _ _
      | exact LeO.none _
      | refine LeO.ite ?_ ?_
      | refine LeO.bind ?_ (fun _ => ?_)
    · intro y0 y1 y2 y3
      unfold soffitref01_Text.j1
      repeat' first
      | (with_reducible exact ih0 _ _ _ _ _)
      | (with_reducible exact ih1 _ _ _ _)
      | (with_reducible exact ih2 _ _ _ _)
      | (with_reducible exact soffitref01_Sound.mono _ _ _)
      | (with_reducible exact LeO.refl _)
      | (with_reducible exact LeO.none _)
      | (with_reducible refine LeO.ite ?_ ?_)
      | (with_reducible refine LeO.bind ?_ (fun _ => ?_))
      | exact ih0 _ _ _ _ _
      | exact ih1 _ _ _ _
      | exact ih2 _ _ _ _
      | exact soffitref01_Sound.mono _ _ _
      | exact LeO.none _
      | refine LeO.ite ?_ ?_
      | refine LeO.bind ?_ (fun _ => ?_)
    · intro y0 y1 y2 y3
      unfold soffitref01_Text.l1
      repeat' first
      | (with_reducible exact ih0 _ _ _ _ _)
      | (with_reducible exact ih1 _ _ _ _)
      | (with_reducible exact ih2 _ _ _ _)
      | (with_reducible exact soffitref01_Sound.mono _ _ _)
      | (with_reducible exact LeO.refl _)
      | (with_reducible exact LeO.none _)
      | (with_reducible refine LeO.ite ?_ ?_)
      | (with_reducible refine LeO.bind ?_ (fun _ => ?_))
      | exact ih0 _ _ _ _ _
      | exact ih1 _ _ _ _
      | exact ih2 _ _ _ _
      | exact soffitref01_Sound.mono _ _ _
      | exact LeO.none _
      | refine LeO.ite ?_ ?_
      | refine LeO.bind ?_ (fun _ => ?_)
theorem soffitref01_Text.mono : ∀ a0 a1 k, LeO (soffitref01_Text.f k a0 a1) (soffitref01_Text.f (k + 1) a0 a1) := by
  intro a0 a1 k
  obtain ⟨ih0, ih1, ih2⟩ := soffitref01_Text.mono_l k
  unfold soffitref01_Text.f
  repeat' first
      | (with_reducible exact ih0 _ _ _ _ _)
      | (with_reducible exact ih1 _ _ _ _)
      | (with_reducible exact ih2 _ _ _ _)
      | (with_reducible exact soffitref01_Sound.mono _ _ _)
      | (with_reducible exact LeO.refl _)
      | (with_reducible exact LeO.none _)
      | (with_reducible refine LeO.ite ?_ ?_)
      | (with_reducible refine LeO.bind ?_ (fun _ => ?_))
      | exact ih0 _ _ _ _ _
      | exact ih1 _ _ _ _
      | exact ih2 _ _ _ _
      | exact soffitref01_Sound.mono _ _ _
      | exact LeO.none _
      | refine LeO.ite ?_ ?_
      | refine LeO.bind ?_ (fun _ => ?_)
set_option maxHeartbeats 8000000 in
set_option maxRecDepth 100000 in
theorem soffitref01_Text.calls (k : Nat) (a0_0 : Int) (a0_1 : Int) (r1 : ByteArray) (r2 : Int) (w : World) (h : soffitref01_Text.f k a0_0 a0_1 = some (r1, r2)) :
    Calls Tryd.prog 17 #[.agg #[.int .i64 a0_0, .int .i64 a0_1]] w fun e w' => e = .returned (.tuple #[.string r1, .int .i64 r2]) ∧ Below w.heap.size w w' := by
  have hu23 := Tryd.underlying23
  have HB := Aside0.mk (Below.refl w.heap.size w)
  have H : ((soffitref01_Sound.f k a0_0 a0_1).bind fun t270 => (if t270 = true then ((soffitref01_size.f a0_0).bind fun t271 => (soffitref01_Text.l0 k t271 (⟨#[]⟩ : ByteArray) 0 a0_0 a0_1)) else (some ((⟨#[]⟩ : ByteArray), 2)))) = some (r1, r2) := h
  clear h
  replace H := Option.bind_eq_some_iff.mp H
  obtain ⟨t270, A20, H⟩ := H
  replace H : (if t270 = true then ((soffitref01_size.f a0_0).bind fun t271 => (soffitref01_Text.l0 k t271 (⟨#[]⟩ : ByteArray) 0 a0_0 a0_1)) else (some ((⟨#[]⟩ : ByteArray), 2))) = some (r1, r2) := H
  have A2 := Aside0.mk A20
  clear A20
  by_cases c3 : t270 = true
  · subst c3
    have H1 : ((soffitref01_size.f a0_0).bind fun t271 => (soffitref01_Text.l0 k t271 (⟨#[]⟩ : ByteArray) 0 a0_0 a0_1)) = some (r1, r2) := by rw [if_pos rfl] at H; exact H
    clear H
    have H := H1
    clear H1
    replace H := Option.bind_eq_some_iff.mp H
    obtain ⟨t271, A40, H⟩ := H
    replace H : (soffitref01_Text.l0 k t271 (⟨#[]⟩ : ByteArray) 0 a0_0 a0_1) = some (r1, r2) := H
    have A4 := Aside0.mk A40
    clear A40
    have H' := Aside0.mk H
    clear H
    go_enter Tryd.func17, Tryd.ntmps17
    go_wp2_with (first | ((with_reducible refine gate_dst (N := 1) rfl ?_); refine box_event ?hg (N := 1) ?hd (cs := #[.int .i64 a0_0, .int .i64 a0_1]) (t := 23) ?hr ?_; (case hd => rfl); (case hg => rfl); (case hr => first | (go_simp; done) | (go_simp; rfl)); intro gb269 hg w5 hbox hb; have n0_ := Aside0.mk (below_step (by repeat (first | (with_reducible first | exact HB.out | apply below_alloc | apply pw_below_drewN | apply below_drew1) | exact HB.out)) hb); have n1_ := Aside0.mk (hbox); have n2_ := Aside0.mk ((by rw [hg]; exact (below_size (by repeat (first | (with_reducible first | exact HB.out | apply below_alloc | apply pw_below_drewN | apply below_drew1) | exact HB.out))) : w.heap.size ≤ gb269)); have n3_ := Aside0.mk ((by rw [hg]; exact (below_size (by repeat (first | (with_reducible first | exact HB.out | apply below_alloc | apply pw_below_drewN | apply below_drew1) | exact HB.out))) : w.heap.size ≤ gb269)); clear HB; have HB := n0_; have BK269 := n1_; have GW269 := n2_; have GE269 := n3_; clear n0_ n1_ n2_ n3_; clear hb hbox hg; have hcz6_0 : w5.cell? ⟨gb269, 0, none⟩ = some (.int .i64 a0_0) := (blk_cell BK269.out 0).trans rfl; have hcz6_1 : w5.cell? ⟨gb269, 1, none⟩ = some (.int .i64 a0_1) := (blk_cell BK269.out 1).trans rfl; have hfz6_0 := blk_frozen BK269.out 0; have hfz6_1 := blk_frozen BK269.out 1) | ((with_reducible refine gate_callee (f := 13) rfl ?_); refine goesL_ (some 8) rfl rfl Tryd.func13 (by kernel_rfl) rfl #[.agg #[.int .i64 a0_0, .int .i64 a0_1]] rfl (by (try simp only [List.map_toArray, List.map_cons, List.map_nil]); first | done | rfl | (simp only [List.length_drop, List.length_take]; rfl)) ?_; (with_reducible refine (soffitref01_Sound.calls k a0_0 a0_1 true _ A2.out).mono ?_); rintro e w7 ⟨rfl, hb⟩; refine ⟨_, rfl, ?_⟩; have n0_ := Aside0.mk (blk_below (g := gb269) (o := .cells #[.int .i64 a0_0, .int .i64 a0_1] 23 (0, 0)) (by (with_reducible repeat (first | refine blk_drewN ?_ _ | refine blk_drew ?_ | refine blk_alloc ?_ _)); exact BK269.out) hb); have n1_ := Aside0.mk (below_step (by repeat (first | (with_reducible first | exact HB.out | apply below_alloc | apply pw_below_drewN | apply below_drew1 | refine below_set ?_ GE269.out) | exact HB.out)) hb); clear BK269; clear HB; have BK269 := n0_; have HB := n1_; clear n0_ n1_; (try clear hb); (try clear hb2); (try clear hk); (try clear hi); have hcz8_0 : w7.cell? ⟨gb269, 0, none⟩ = some (.int .i64 a0_0) := (blk_cell BK269.out 0).trans rfl; have hcz8_1 : w7.cell? ⟨gb269, 1, none⟩ = some (.int .i64 a0_1) := (blk_cell BK269.out 1).trans rfl; have hfz8_0 := blk_frozen BK269.out 0; have hfz8_1 := blk_frozen BK269.out 1) | ((with_reducible refine gate_callee (f := 33) rfl ?_); refine goesL_ (some 12) rfl rfl Tryd.func33 (by kernel_rfl) rfl #[.int .i64 a0_0] rfl (by (try simp only [List.map_toArray, List.map_cons, List.map_nil]); first | done | rfl | (simp only [List.length_drop, List.length_take]; rfl)) ?_; (with_reducible refine (soffitref01_size.calls a0_0 t271 _ A4.out).mono ?_); rintro e w' ⟨rfl, ⟨nd, rfl⟩⟩; refine ⟨_, rfl, ?_⟩))
    (try simp only [Act.put, List.setIfInBounds_toArray, List.set_cons_succ, List.set_cons_zero])
    go_loopg [4, 5, 6] k (fun kq v4 v5 v6 w' => ∃ (x4_1 : Int) (x5_1 : ByteArray) (x6_1 : Int), v4 = .int .i64 x4_1 ∧ v5 = .string x5_1 ∧ v6 = .int .i64 x6_1 ∧ Aside0 (soffitref01_Text.l0 kq x4_1 x5_1 x6_1 a0_0 a0_1 = some (r1, r2)) ∧ Aside0 (kq ≤ k) ∧ Aside0 (w'.heap[gb269]? = some (.cells #[.int .i64 a0_0, .int .i64 a0_1] 23 (0, 0))) ∧ Aside0 (Below w.heap.size w w'))
    case atStart => exact ⟨(t271), ((⟨#[]⟩ : ByteArray)), (0), (by first | rfl | (simp; done) | (simp [*]; done)), (by first | rfl | (simp; done) | (simp [*]; done)), (by first | rfl | (simp; done) | (simp [*]; done)), H', ⟨Nat.le_refl _⟩, ⟨by (with_reducible repeat (first | refine blk_drewN ?_ _ | refine blk_drew ?_ | refine blk_alloc ?_ _)); exact BK269.out⟩, ⟨by repeat (first | (with_reducible first | exact HB.out | apply below_alloc | apply pw_below_drewN | apply below_drew1 | refine below_set ?_ GE269.out) | exact HB.out)⟩⟩
    case round =>
      clear H'
      try clear c1
      try clear p2
      try clear c3
      try clear hcz6_0
      try clear hcz6_1
      try clear hcz8_0
      try clear hcz8_1
      try clear hfz6_0
      try clear hfz6_1
      try clear hfz8_0
      try clear hfz8_1
      obtain ⟨x4_1, x5_1, x6_1, rfl, rfl, rfl, HA, HK1, BK269, HB⟩ := hrel
      cases gk with
      | zero => exact absurd HA.out (by simp [soffitref01_Text.l0])
      | succ k1 =>
        have H := HA.out
        clear HA
        simp only [soffitref01_Text.l0] at H
        by_cases c9 : x6_1 < a0_1
        · rw [if_pos c9] at H
          have c9b0 : decide (x6_1 < a0_1) = true := decide_eq_true c9
          clear c9
          obtain ⟨y272, hy272⟩ : ∃ y_ : List Int, y_ = (([(wrap64 (48 + (Int.tmod x4_1 10))) % 256] : List Int)) := ⟨_, rfl⟩
          replace H : (if (strOfNums y272).size + x5_1.size ≤ 9223372036854775807 then (soffitref01_Text.l0 k1 (wrap64 (Int.tdiv x4_1 10)) ((strOfNums y272) ++ x5_1) (wrap64 (x6_1 + 1)) a0_0 a0_1) else (none)) = some (r1, r2) := by first | (rw [hy272]; with_reducible exact H) | (have H2_ := (Option.bind_some _ _).symm.trans H; rw [hy272]; with_reducible exact H2_) | (have H2_ := (Option.bind_some _ _).symm.trans H; with_reducible exact H2_) | with_reducible exact H | (rw [hy272]; exact H) | exact H
          have Ny272 := Aside0.mk hy272
          clear hy272
          by_cases c10 : (strOfNums y272).size + x5_1.size ≤ 9223372036854775807
          · rw [if_pos c10] at H
            have c10b0 := eq_true c10
            have c10b1 : decide ((strOfNums y272).size + x5_1.size ≤ 9223372036854775807) = true := decide_eq_true c10
            try have c10b2 : (9223372036854775807 < (strOfNums y272).size + x5_1.size) = False := eq_false (Nat.not_lt.2 c10)
            have H' := Aside0.mk H
            clear H
            have hcz11_0 : wr.cell? ⟨gb269, 0, none⟩ = some (.int .i64 a0_0) := (blk_cell BK269.out 0).trans rfl
            have hcz11_1 : wr.cell? ⟨gb269, 1, none⟩ = some (.int .i64 a0_1) := (blk_cell BK269.out 1).trans rfl
            have hfz11_0 := blk_frozen BK269.out 0
            have hfz11_1 := blk_frozen BK269.out 1
            go_wp2_with (first | ((with_reducible refine gate_dst (N := 23) rfl ?_); refine Kd.R_lit (Kd.int .u8) _ 5 ?hg (N := 23) ?hd (xs := ([(wrap64 (48 + (Int.tmod x4_1 10))) % 256] : List Int)) (inner := [.int .u8 ((wrap64 (48 + (Int.tmod x4_1 10))) % 256)]) (ok := fun _ => True) (okp := fun _ => True) ?hr ?hp (fun _ hk => hk) trivial (Below.refl _ _) (Nat.le_refl _) (by simp) ?_; (case hd => rfl); (case hg => rfl); (case hr => first | (go_simp; done) | (go_simp; rfl)); (case hp => exact (Reps.one (show Kd.M (Kd.int .u8) _ _ _ ((wrap64 (48 + (Int.tmod x4_1 10))) % 256) [.int .u8 ((wrap64 (48 + (Int.tmod x4_1 10))) % 256)] from rfl) (Reps.none _ _))); intro v273 w12 ho13 hb hg_ hnew_; clear hg_ hnew_; (first | rw [← Ny272.out] at ho13 | (simp only [Int.reduceToNat] at ho13; rw [← Ny272.out] at ho13)); have n0_ := Aside0.mk (Kd.R_lower ho13 (below_size (by repeat (first | (with_reducible first | exact HB.out | apply below_alloc | apply pw_below_drewN | apply below_drew1 | refine below_set ?_ GE269.out) | exact HB.out)))); have n1_ := Aside0.mk (blk_below (g := gb269) (o := .cells #[.int .i64 a0_0, .int .i64 a0_1] 23 (0, 0)) (by (with_reducible repeat (first | refine blk_drewN ?_ _ | refine blk_drew ?_ | refine blk_alloc ?_ _)); exact BK269.out) hb); have n2_ := Aside0.mk (below_step (by repeat (first | (with_reducible first | exact HB.out | apply below_alloc | apply pw_below_drewN | apply below_drew1 | refine below_set ?_ GE269.out) | exact HB.out)) hb); clear BK269; clear HB; have HO274 := n0_; have BK269 := n1_; have HB := n2_; clear n0_ n1_ n2_; clear hb ho13; have hcv14 := own_string (P := Tryd.prog) Tryd.underlying61 Tryd.underlying5 Tryd.underlying9 (Kd.own_of_R HO274.out)))
            go_roundg k1
            case measure => have := HK1.out; omega
            case rel => exact ⟨(wrap64 (Int.tdiv x4_1 10)), ((strOfNums y272) ++ x5_1), (wrap64 (x6_1 + 1)), (by first | rfl | (simp; done) | (simp [*]; done)), (by first | rfl | (simp; done) | (simp [*]; done)), (by first | rfl | (simp; done) | (simp [*]; done)), H', ⟨by have := HK1.out; omega⟩, ⟨by (with_reducible repeat (first | refine blk_drewN ?_ _ | refine blk_drew ?_ | refine blk_alloc ?_ _)); exact BK269.out⟩, ⟨by repeat (first | (with_reducible first | exact HB.out | apply below_alloc | apply pw_below_drewN | apply below_drew1 | refine below_set ?_ GE269.out) | exact HB.out)⟩⟩
          · rw [if_neg c10] at H
            exact absurd H (by simp)
        · rw [if_neg c9] at H
          have c9b0 : decide (x6_1 < a0_1) = false := decide_eq_false c9
          clear c9
          have HC15 := Aside0.mk H
          clear H
          have hcz16_0 : wr.cell? ⟨gb269, 0, none⟩ = some (.int .i64 a0_0) := (blk_cell BK269.out 0).trans rfl
          have hcz16_1 : wr.cell? ⟨gb269, 1, none⟩ = some (.int .i64 a0_1) := (blk_cell BK269.out 1).trans rfl
          have hfz16_0 := blk_frozen BK269.out 0
          have hfz16_1 := blk_frozen BK269.out 1
          go_upto_if 31 with (fail)
          go_cut [5] (fun v5 wc => ∃ (kq : Nat) (x5_14 : ByteArray), v5 = .string x5_14 ∧ Aside0 (soffitref01_Text.j1 kq x4_1 x5_14 a0_0 a0_1 = some (r1, r2)) ∧ Aside0 (kq ≤ k1) ∧ Aside0 (wc.heap[gb269]? = some (.cells #[.int .i64 a0_0, .int .i64 a0_1] 23 (0, 0))) ∧ Aside0 (Below w.heap.size w wc))
          case first =>
            have H := HC15.out
            clear HC15
            by_cases c17 : a0_1 > 0
            · rw [if_pos c17] at H
              have c17b0 : decide (0 < a0_1) = true := decide_eq_true c17
              clear c17
              (first | rw [c17b0] | (simp only [i64_w, i32_w]; rw [c17b0]) | skip)
              by_cases c18 : 1 + x5_1.size ≤ 9223372036854775807
              · rw [if_pos c18] at H
                have c18b0 := eq_true c18
                have c18b1 : decide (1 + x5_1.size ≤ 9223372036854775807) = true := decide_eq_true c18
                try have c18b2 : (9223372036854775807 < 1 + x5_1.size) = False := eq_false (Nat.not_lt.2 c18)
                have H' := Aside0.mk H
                clear H
                go_wp2
                go_meet
                case rel => exact ⟨_, ((⟨#[46]⟩ : ByteArray) ++ x5_1), (by first | rfl | (simp; done) | (simp [*]; done)), H', ⟨by have := HK1.out; first | omega | exact Nat.le_refl _⟩, ⟨by (with_reducible repeat (first | refine blk_drewN ?_ _ | refine blk_drew ?_ | refine blk_alloc ?_ _)); exact BK269.out⟩, ⟨by repeat (first | (with_reducible first | exact HB.out | apply below_alloc | apply pw_below_drewN | apply below_drew1 | refine below_set ?_ GE269.out) | exact HB.out)⟩⟩
              · rw [if_neg c18] at H
                exact absurd H (by simp)
            · rw [if_neg c17] at H
              have c17b0 : decide (0 < a0_1) = false := decide_eq_false c17
              clear c17
              (first | rw [c17b0] | (simp only [i64_w, i32_w]; rw [c17b0]) | skip)
              have H' := Aside0.mk H
              clear H
              go_wp2
              go_meet
              case rel => exact ⟨_, (x5_1), (by first | rfl | (simp; done) | (simp [*]; done)), H', ⟨by have := HK1.out; first | omega | exact Nat.le_refl _⟩, ⟨by (with_reducible repeat (first | refine blk_drewN ?_ _ | refine blk_drew ?_ | refine blk_alloc ?_ _)); exact BK269.out⟩, ⟨by repeat (first | (with_reducible first | exact HB.out | apply below_alloc | apply pw_below_drewN | apply below_drew1 | refine below_set ?_ GE269.out) | exact HB.out)⟩⟩
          case rest =>
            clear HC15
            try clear c1
            try clear hcv1
            try clear p2
            try clear c3
            try clear p6
            try clear c9
            try clear c9b0
            try clear c10
            try clear c10b0
            try clear c10b1
            try clear c10b2
            try clear c13
            try clear hcv14
            try clear c17
            try clear c17b0
            try clear c18
            try clear c18b0
            try clear c18b1
            try clear c18b2
            try clear hcz11_0
            try clear hcz11_1
            try clear hcz16_0
            try clear hcz16_1
            try clear hcz6_0
            try clear hcz6_1
            try clear hcz8_0
            try clear hcz8_1
            try clear hfz11_0
            try clear hfz11_1
            try clear hfz16_0
            try clear hfz16_1
            try clear hfz6_0
            try clear hfz6_1
            try clear hfz8_0
            try clear hfz8_1
            try clear p2
            obtain ⟨kq, x5_14, rfl, HA, HJ14, BK269, HB⟩ := hcut
            cases kq with
            | zero => exact absurd HA.out (by simp [soffitref01_Text.j1])
            | succ kj14 =>
              have H := HA.out
              clear HA
              simp only [soffitref01_Text.j1] at H
              obtain ⟨y275, hy275⟩ : ∃ y_ : List Int, y_ = (([(wrap64 (48 + (Int.tmod x4_1 10))) % 256] : List Int)) := ⟨_, rfl⟩
              replace H : (if (strOfNums y275).size + x5_14.size ≤ 9223372036854775807 then (soffitref01_Text.l1 kj14 x4_1 ((strOfNums y275) ++ x5_14) a0_0 a0_1) else (none)) = some (r1, r2) := by first | (rw [hy275]; with_reducible exact H) | (have H2_ := (Option.bind_some _ _).symm.trans H; rw [hy275]; with_reducible exact H2_) | (have H2_ := (Option.bind_some _ _).symm.trans H; with_reducible exact H2_) | with_reducible exact H | (rw [hy275]; exact H) | exact H
              have Ny275 := Aside0.mk hy275
              clear hy275
              by_cases c19 : (strOfNums y275).size + x5_14.size ≤ 9223372036854775807
              · rw [if_pos c19] at H
                have c19b0 := eq_true c19
                have c19b1 : decide ((strOfNums y275).size + x5_14.size ≤ 9223372036854775807) = true := decide_eq_true c19
                try have c19b2 : (9223372036854775807 < (strOfNums y275).size + x5_14.size) = False := eq_false (Nat.not_lt.2 c19)
                have H' := Aside0.mk H
                clear H
                go_wp2_with (first | ((with_reducible refine gate_dst (N := 38) rfl ?_); refine Kd.R_lit (Kd.int .u8) _ 5 ?hg (N := 38) ?hd (xs := ([(wrap64 (48 + (Int.tmod x4_1 10))) % 256] : List Int)) (inner := [.int .u8 ((wrap64 (48 + (Int.tmod x4_1 10))) % 256)]) (ok := fun _ => True) (okp := fun _ => True) ?hr ?hp (fun _ hk => hk) trivial (Below.refl _ _) (Nat.le_refl _) (by simp) ?_; (case hd => rfl); (case hg => rfl); (case hr => first | (go_simp; done) | (go_simp; rfl)); (case hp => exact (Reps.one (show Kd.M (Kd.int .u8) _ _ _ ((wrap64 (48 + (Int.tmod x4_1 10))) % 256) [.int .u8 ((wrap64 (48 + (Int.tmod x4_1 10))) % 256)] from rfl) (Reps.none _ _))); intro v276 w20 ho21 hb hg_ hnew_; clear hg_ hnew_; (first | rw [← Ny275.out] at ho21 | (simp only [Int.reduceToNat] at ho21; rw [← Ny275.out] at ho21)); have n0_ := Aside0.mk (Kd.R_lower ho21 (below_size (by repeat (first | (with_reducible first | exact HB.out | apply below_alloc | apply pw_below_drewN | apply below_drew1 | refine below_set ?_ GE269.out) | exact HB.out)))); have n1_ := Aside0.mk (blk_below (g := gb269) (o := .cells #[.int .i64 a0_0, .int .i64 a0_1] 23 (0, 0)) (by (with_reducible repeat (first | refine blk_drewN ?_ _ | refine blk_drew ?_ | refine blk_alloc ?_ _)); exact BK269.out) hb); have n2_ := Aside0.mk (below_step (by repeat (first | (with_reducible first | exact HB.out | apply below_alloc | apply pw_below_drewN | apply below_drew1 | refine below_set ?_ GE269.out) | exact HB.out)) hb); clear BK269; clear HB; have HO277 := n0_; have BK269 := n1_; have HB := n2_; clear n0_ n1_ n2_; clear hb ho21; have hcv22 := own_string (P := Tryd.prog) Tryd.underlying61 Tryd.underlying5 Tryd.underlying9 (Kd.own_of_R HO277.out)))
                (try simp only [Act.put, List.setIfInBounds_toArray, List.set_cons_succ, List.set_cons_zero])
                go_loopg [4, 5] kj14 (fun kq v4 v5 w' => ∃ (x4_3 : Int) (x5_3 : ByteArray), v4 = .int .i64 x4_3 ∧ v5 = .string x5_3 ∧ Aside0 (soffitref01_Text.l1 kq x4_3 x5_3 a0_0 a0_1 = some (r1, r2)) ∧ Aside0 (kq ≤ kj14) ∧ Aside0 (w'.heap[gb269]? = some (.cells #[.int .i64 a0_0, .int .i64 a0_1] 23 (0, 0))) ∧ Aside0 (Below w.heap.size w w'))
                case atStart => exact ⟨(x4_1), ((strOfNums y275) ++ x5_14), (by first | rfl | (simp; done) | (simp [*]; done)), (by first | rfl | (simp; done) | (simp [*]; done)), H', ⟨Nat.le_refl _⟩, ⟨by (with_reducible repeat (first | refine blk_drewN ?_ _ | refine blk_drew ?_ | refine blk_alloc ?_ _)); exact BK269.out⟩, ⟨by repeat (first | (with_reducible first | exact HB.out | apply below_alloc | apply pw_below_drewN | apply below_drew1 | refine below_set ?_ GE269.out) | exact HB.out)⟩⟩
                case round =>
                  clear H'
                  try clear c1
                  try clear hcv1
                  try clear p2
                  try clear hcv2
                  try clear c3
                  try clear p6
                  try clear c9
                  try clear c9b0
                  try clear c10
                  try clear c10b0
                  try clear c10b1
                  try clear c10b2
                  try clear c13
                  try clear hcv14
                  try clear c17
                  try clear c17b0
                  try clear c18
                  try clear c18b0
                  try clear c18b1
                  try clear c18b2
                  try clear c19
                  try clear c19b0
                  try clear c19b1
                  try clear c19b2
                  try clear hcv22
                  try clear hcz11_0
                  try clear hcz11_1
                  try clear hcz16_0
                  try clear hcz16_1
                  try clear hcz6_0
                  try clear hcz6_1
                  try clear hcz8_0
                  try clear hcz8_1
                  try clear hfz11_0
                  try clear hfz11_1
                  try clear hfz16_0
                  try clear hfz16_1
                  try clear hfz6_0
                  try clear hfz6_1
                  try clear hfz8_0
                  try clear hfz8_1
                  try clear p2
                  try clear p6
                  obtain ⟨x4_3, x5_3, rfl, rfl, HA, HK3, BK269, HB⟩ := hrel
                  cases gk with
                  | zero => exact absurd HA.out (by simp [soffitref01_Text.l1])
                  | succ k3 =>
                    have H := HA.out
                    clear HA
                    simp only [soffitref01_Text.l1] at H
                    by_cases c23 : x4_3 ≥ 10
                    · rw [if_pos c23] at H
                      have c23b0 : decide (10 ≤ x4_3) = true := decide_eq_true c23
                      clear c23
                      obtain ⟨y278, hy278⟩ : ∃ y_ : List Int, y_ = (([(wrap64 (48 + (Int.tmod (wrap64 (Int.tdiv x4_3 10)) 10))) % 256] : List Int)) := ⟨_, rfl⟩
                      replace H : (if (strOfNums y278).size + x5_3.size ≤ 9223372036854775807 then (soffitref01_Text.l1 k3 (wrap64 (Int.tdiv x4_3 10)) ((strOfNums y278) ++ x5_3) a0_0 a0_1) else (none)) = some (r1, r2) := by first | (rw [hy278]; with_reducible exact H) | (have H2_ := (Option.bind_some _ _).symm.trans H; rw [hy278]; with_reducible exact H2_) | (have H2_ := (Option.bind_some _ _).symm.trans H; with_reducible exact H2_) | with_reducible exact H | (rw [hy278]; exact H) | exact H
                      have Ny278 := Aside0.mk hy278
                      clear hy278
                      by_cases c24 : (strOfNums y278).size + x5_3.size ≤ 9223372036854775807
                      · rw [if_pos c24] at H
                        have c24b0 := eq_true c24
                        have c24b1 : decide ((strOfNums y278).size + x5_3.size ≤ 9223372036854775807) = true := decide_eq_true c24
                        try have c24b2 : (9223372036854775807 < (strOfNums y278).size + x5_3.size) = False := eq_false (Nat.not_lt.2 c24)
                        have H' := Aside0.mk H
                        clear H
                        go_wp2_with (first | ((with_reducible refine gate_dst (N := 50) rfl ?_); refine Kd.R_lit (Kd.int .u8) _ 5 ?hg (N := 50) ?hd (xs := ([(wrap64 (48 + (Int.tmod (wrap64 (Int.tdiv x4_3 10)) 10))) % 256] : List Int)) (inner := [.int .u8 ((wrap64 (48 + (Int.tmod (wrap64 (Int.tdiv x4_3 10)) 10))) % 256)]) (ok := fun _ => True) (okp := fun _ => True) ?hr ?hp (fun _ hk => hk) trivial (Below.refl _ _) (Nat.le_refl _) (by simp) ?_; (case hd => rfl); (case hg => rfl); (case hr => first | (go_simp; done) | (go_simp; rfl)); (case hp => exact (Reps.one (show Kd.M (Kd.int .u8) _ _ _ ((wrap64 (48 + (Int.tmod (wrap64 (Int.tdiv x4_3 10)) 10))) % 256) [.int .u8 ((wrap64 (48 + (Int.tmod (wrap64 (Int.tdiv x4_3 10)) 10))) % 256)] from rfl) (Reps.none _ _))); intro v279 w25 ho26 hb hg_ hnew_; clear hg_ hnew_; (first | rw [← Ny278.out] at ho26 | (simp only [Int.reduceToNat] at ho26; rw [← Ny278.out] at ho26)); have n0_ := Aside0.mk (Kd.R_lower ho26 (below_size (by repeat (first | (with_reducible first | exact HB.out | apply below_alloc | apply pw_below_drewN | apply below_drew1 | refine below_set ?_ GE269.out) | exact HB.out)))); have n1_ := Aside0.mk (blk_below (g := gb269) (o := .cells #[.int .i64 a0_0, .int .i64 a0_1] 23 (0, 0)) (by (with_reducible repeat (first | refine blk_drewN ?_ _ | refine blk_drew ?_ | refine blk_alloc ?_ _)); exact BK269.out) hb); have n2_ := Aside0.mk (below_step (by repeat (first | (with_reducible first | exact HB.out | apply below_alloc | apply pw_below_drewN | apply below_drew1 | refine below_set ?_ GE269.out) | exact HB.out)) hb); clear BK269; clear HB; have HO280 := n0_; have BK269 := n1_; have HB := n2_; clear n0_ n1_ n2_; clear hb ho26; have hcv27 := own_string (P := Tryd.prog) Tryd.underlying61 Tryd.underlying5 Tryd.underlying9 (Kd.own_of_R HO280.out)))
                        go_roundg k3
                        case measure => have := HK1.out; have := HJ14.out; have := HK3.out; omega
                        case rel => exact ⟨(wrap64 (Int.tdiv x4_3 10)), ((strOfNums y278) ++ x5_3), (by first | rfl | (simp; done) | (simp [*]; done)), (by first | rfl | (simp; done) | (simp [*]; done)), H', ⟨by have := HK1.out; have := HJ14.out; have := HK3.out; omega⟩, ⟨by (with_reducible repeat (first | refine blk_drewN ?_ _ | refine blk_drew ?_ | refine blk_alloc ?_ _)); exact BK269.out⟩, ⟨by repeat (first | (with_reducible first | exact HB.out | apply below_alloc | apply pw_below_drewN | apply below_drew1 | refine below_set ?_ GE269.out) | exact HB.out)⟩⟩
                      · rw [if_neg c24] at H
                        exact absurd H (by simp)
                    · rw [if_neg c23] at H
                      have c23b0 : decide (10 ≤ x4_3) = false := decide_eq_false c23
                      clear c23
                      by_cases c28 : a0_0 < 0
                      · rw [if_pos c28] at H
                        have c28b0 : decide (a0_0 < 0) = true := decide_eq_true c28
                        clear c28
                        by_cases c29 : 1 + x5_3.size ≤ 9223372036854775807
                        · rw [if_pos c29] at H
                          have c29b0 := eq_true c29
                          have c29b1 : decide (1 + x5_3.size ≤ 9223372036854775807) = true := decide_eq_true c29
                          try have c29b2 : (9223372036854775807 < 1 + x5_3.size) = False := eq_false (Nat.not_lt.2 c29)
                          simp only [Option.some.injEq, Prod.mk.injEq] at H
                          obtain ⟨rfl, rfl⟩ := H
                          have hcz30_0 : wr.cell? ⟨gb269, 0, none⟩ = some (.int .i64 a0_0) := (blk_cell BK269.out 0).trans rfl
                          have hcz30_1 : wr.cell? ⟨gb269, 1, none⟩ = some (.int .i64 a0_1) := (blk_cell BK269.out 1).trans rfl
                          have hfz30_0 := blk_frozen BK269.out 0
                          have hfz30_1 := blk_frozen BK269.out 1
                          go_wp2
                          go_ret2
                          exact ⟨by first | rfl | (simp [errW_none, errW_some] <;> rfl) | (simp [*, errW_none, errW_some] <;> rfl), by repeat (first | (with_reducible first | exact HB.out | apply below_alloc | apply pw_below_drewN | apply below_drew1 | refine below_set ?_ GE269.out) | exact HB.out)⟩
                        · rw [if_neg c29] at H
                          exact absurd H (by simp)
                      · rw [if_neg c28] at H
                        have c28b0 : decide (a0_0 < 0) = false := decide_eq_false c28
                        clear c28
                        simp only [Option.some.injEq, Prod.mk.injEq] at H
                        obtain ⟨rfl, rfl⟩ := H
                        have hcz31_0 : wr.cell? ⟨gb269, 0, none⟩ = some (.int .i64 a0_0) := (blk_cell BK269.out 0).trans rfl
                        have hcz31_1 : wr.cell? ⟨gb269, 1, none⟩ = some (.int .i64 a0_1) := (blk_cell BK269.out 1).trans rfl
                        have hfz31_0 := blk_frozen BK269.out 0
                        have hfz31_1 := blk_frozen BK269.out 1
                        go_wp2
                        go_ret2
                        exact ⟨by first | rfl | (simp [errW_none, errW_some] <;> rfl) | (simp [*, errW_none, errW_some] <;> rfl), by repeat (first | (with_reducible first | exact HB.out | apply below_alloc | apply pw_below_drewN | apply below_drew1 | refine below_set ?_ GE269.out) | exact HB.out)⟩
              · rw [if_neg c19] at H
                exact absurd H (by simp)
  · replace c3 := Bool.eq_false_iff.mpr c3
    subst c3
    have H1 : (some ((⟨#[]⟩ : ByteArray), 2)) = some (r1, r2) := by rw [if_neg (show ¬ (false = true) by decide)] at H; exact H
    clear H
    have H := H1
    clear H1
    simp only [Option.some.injEq, Prod.mk.injEq] at H
    obtain ⟨rfl, rfl⟩ := H
    go_enter Tryd.func17, Tryd.ntmps17
    go_wp2_with (first | ((with_reducible refine gate_dst (N := 1) rfl ?_); refine box_event ?hg (N := 1) ?hd (cs := #[.int .i64 a0_0, .int .i64 a0_1]) (t := 23) ?hr ?_; (case hd => rfl); (case hg => rfl); (case hr => first | (go_simp; done) | (go_simp; rfl)); intro gb269 hg w32 hbox hb; have n0_ := Aside0.mk (below_step (by repeat (first | (with_reducible first | exact HB.out | apply below_alloc | apply pw_below_drewN | apply below_drew1) | exact HB.out)) hb); have n1_ := Aside0.mk (hbox); have n2_ := Aside0.mk ((by rw [hg]; exact (below_size (by repeat (first | (with_reducible first | exact HB.out | apply below_alloc | apply pw_below_drewN | apply below_drew1) | exact HB.out))) : w.heap.size ≤ gb269)); have n3_ := Aside0.mk ((by rw [hg]; exact (below_size (by repeat (first | (with_reducible first | exact HB.out | apply below_alloc | apply pw_below_drewN | apply below_drew1) | exact HB.out))) : w.heap.size ≤ gb269)); clear HB; have HB := n0_; have BK269 := n1_; have GW269 := n2_; have GE269 := n3_; clear n0_ n1_ n2_ n3_; clear hb hbox hg; have hcz33_0 : w32.cell? ⟨gb269, 0, none⟩ = some (.int .i64 a0_0) := (blk_cell BK269.out 0).trans rfl; have hcz33_1 : w32.cell? ⟨gb269, 1, none⟩ = some (.int .i64 a0_1) := (blk_cell BK269.out 1).trans rfl; have hfz33_0 := blk_frozen BK269.out 0; have hfz33_1 := blk_frozen BK269.out 1) | ((with_reducible refine gate_callee (f := 13) rfl ?_); refine goesL_ (some 8) rfl rfl Tryd.func13 (by kernel_rfl) rfl #[.agg #[.int .i64 a0_0, .int .i64 a0_1]] rfl (by (try simp only [List.map_toArray, List.map_cons, List.map_nil]); first | done | rfl | (simp only [List.length_drop, List.length_take]; rfl)) ?_; (with_reducible refine (soffitref01_Sound.calls k a0_0 a0_1 false _ A2.out).mono ?_); rintro e w34 ⟨rfl, hb⟩; refine ⟨_, rfl, ?_⟩; have n0_ := Aside0.mk (blk_below (g := gb269) (o := .cells #[.int .i64 a0_0, .int .i64 a0_1] 23 (0, 0)) (by (with_reducible repeat (first | refine blk_drewN ?_ _ | refine blk_drew ?_ | refine blk_alloc ?_ _)); exact BK269.out) hb); have n1_ := Aside0.mk (below_step (by repeat (first | (with_reducible first | exact HB.out | apply below_alloc | apply pw_below_drewN | apply below_drew1 | refine below_set ?_ GE269.out) | exact HB.out)) hb); clear BK269; clear HB; have BK269 := n0_; have HB := n1_; clear n0_ n1_; (try clear hb); (try clear hb2); (try clear hk); (try clear hi)))
    go_ret2
    exact ⟨by first | rfl | (simp [errW_none, errW_some] <;> rfl) | (simp [*, errW_none, errW_some] <;> rfl), by repeat (first | (with_reducible first | exact HB.out | apply below_alloc | apply pw_below_drewN | apply below_drew1 | refine below_set ?_ GE269.out) | exact HB.out)⟩
end Go.Proofs.YtgkemhgihbfmmaaDoor.PA
end
section
namespace Go.Proofs.YtgkemhgihbfmmaaDoor.PA
open Go.RowKit Go.Proofs.YtgkemhgihbfmmaaDoorW.PrintWords Go.Proofs.YtgkemhgihbfmmaaDoorW.PrintLast Go.Proofs.YtgkemhgihbfmmaaDoorW.PrintMore
attribute [local go_sem] max2_int min2_int max_two min_two max_three min_three max_four min_four
set_option linter.unusedVariables false
set_option linter.unusedSimpArgs false
mutual
def soffitref01_Parse.j0 : Nat → ByteArray → Bool → Option (Int × Int × Int)
  | 0, _, _ => none
  | k + 1, x0, x4 => if x4 = true then (if 1 ≤ (x0.size : Int) then (soffitref01_Parse.j1 k (x0.extract 1 x0.size) x4) else (none)) else (soffitref01_Parse.j1 k x0 x4)
def soffitref01_Parse.j1 : Nat → ByteArray → Bool → Option (Int × Int × Int)
  | 0, _, _ => none
  | k + 1, x0, x4 => soffitref01_Parse.l0 k x0 x4 (-1) 0
def soffitref01_Parse.l0 : Nat → ByteArray → Bool → Int → Int → Option (Int × Int × Int)
  | 0, _, _, _, _ => none
  | k + 1, x0, x4, x5, x6 => if x6 < (x0.size : Int) then (if 0 ≤ x6 then (if (bt x0 x6) = 46 then (soffitref01_Parse.j3 k x0 x4 x5 x6 (decide (x5 < 0))) else (soffitref01_Parse.j3 k x0 x4 x5 x6 false)) else (none)) else (if x5 ≥ 0 then (if 0 ≤ x5 then (if x5 ≤ (x0.size : Int) then (if 0 ≤ (wrap64 (x5 + 1)) then (if (wrap64 (x5 + 1)) ≤ (x0.size : Int) then (if (x0.extract ((wrap64 (x5 + 1)) : Int).toNat x0.size).toList = ([] : List UInt8) then (some (0, 0, 5)) else (soffitref01_Parse.j4 k x4 (x0.extract 0 (x5 : Int).toNat) (x0.extract ((wrap64 (x5 + 1)) : Int).toNat x0.size))) else (none)) else (none)) else (none)) else (none)) else (soffitref01_Parse.j4 k x4 x0 (⟨#[]⟩ : ByteArray)))
def soffitref01_Parse.j3 : Nat → ByteArray → Bool → Int → Int → Bool → Option (Int × Int × Int)
  | 0, _, _, _, _, _ => none
  | k + 1, x0, x4, x5, x6, x36 => if x36 = true then (soffitref01_Parse.l0 k x0 x4 x6 (wrap64 (x6 + 1))) else (if 0 ≤ x6 then (if x6 < (x0.size : Int) then (if (bt x0 x6) < 48 then (some (0, 0, 5)) else (if (bt x0 x6) > 57 then (some (0, 0, 5)) else (soffitref01_Parse.l0 k x0 x4 x5 (wrap64 (x6 + 1))))) else (none)) else (none))
def soffitref01_Parse.j4 : Nat → Bool → ByteArray → ByteArray → Option (Int × Int × Int)
  | 0, _, _, _ => none
  | k + 1, x4, x7, x8 => if x7.toList = ([] : List UInt8) then (soffitref01_Parse.j5 k x4 x7 x8 true) else (if (x7.size : Int) > 1 then (if 0 < (x7.size : Int) then (soffitref01_Parse.j5 k x4 x7 x8 ((bt x7 0) == 48)) else (none)) else (soffitref01_Parse.j5 k x4 x7 x8 false))
def soffitref01_Parse.j5 : Nat → Bool → ByteArray → ByteArray → Bool → Option (Int × Int × Int)
  | 0, _, _, _, _ => none
  | k + 1, x4, x7, x8, x73 => if x73 = true then (some (0, 0, 5)) else (soffitref01_Parse.l1 k x4 x7 x8)
def soffitref01_Parse.j7 : Nat → Bool → ByteArray → ByteArray → Option (Int × Int × Int)
  | 0, _, _, _ => none
  | k + 1, x4, x7, x8 => if (x8.size : Int) > 6 then (soffitref01_Parse.j8 k x4 x7 x8 true) else (soffitref01_Parse.j8 k x4 x7 x8 (decide ((x7.size : Int) > 12)))
def soffitref01_Parse.j8 : Nat → Bool → ByteArray → ByteArray → Bool → Option (Int × Int × Int)
  | 0, _, _, _, _ => none
  | k + 1, x4, x7, x8, x98 => if x98 = true then (some (0, 0, 3)) else (if x7.size + x8.size ≤ 9223372036854775807 then (if 60 ≤ 35184372088832 then (soffitref01_Parse.l2 k x4 x8 (x7 ++ x8) (List.replicate 60 0) 0) else (none)) else (none))
def soffitref01_Parse.l2 : Nat → Bool → ByteArray → ByteArray → List Int → Int → Option (Int × Int × Int)
  | 0, _, _, _, _, _ => none
  | k + 1, x4, x8, x9, x10, x11 => if x11 < (x9.size : Int) then (if 0 ≤ x11 then (if 0 ≤ (wrap64 ((wrap64 ((x9.size : Int) - 1)) - x11)) then (if (wrap64 ((wrap64 ((x9.size : Int) - 1)) - x11)) < (x10.length : Int) then (soffitref01_Parse.l2 k x4 x8 x9 (x10.set ((wrap64 ((wrap64 ((x9.size : Int) - 1)) - x11)) : Int).toNat (((bt x9 x11) - 48) % 256)) (wrap64 (x11 + 1))) else (none)) else (none)) else (none)) else ((soffitref01_dec.f k x10 (x8.size : Int) x4).bind fun bt286 => (some (bt286.1, bt286.2.1, bt286.2.2)))
def soffitref01_Parse.l1 : Nat → Bool → ByteArray → ByteArray → Option (Int × Int × Int)
  | 0, _, _, _ => none
  | k + 1, x4, x7, x8 => if (x8.size : Int) > 0 then (if 0 ≤ (wrap64 ((x8.size : Int) - 1)) then (if (wrap64 ((x8.size : Int) - 1)) < (x8.size : Int) then (if (bt x8 (wrap64 ((x8.size : Int) - 1))) = 48 then (if (wrap64 ((x8.size : Int) - 1)) ≤ (x8.size : Int) then (soffitref01_Parse.l1 k x4 x7 (x8.extract 0 ((wrap64 ((x8.size : Int) - 1)) : Int).toNat)) else (none)) else (soffitref01_Parse.j7 k x4 x7 x8)) else (none)) else (none)) else (soffitref01_Parse.j7 k x4 x7 x8)
end
def soffitref01_Parse.f (k : Nat) (a0 : ByteArray) : Option (Int × Int × Int) := if (a0.size : Int) > 0 then (if 0 < (a0.size : Int) then (soffitref01_Parse.j0 k a0 ((bt a0 0) == 45)) else (none)) else (soffitref01_Parse.j0 k a0 false)
theorem soffitref01_Parse.mono_l : ∀ k, (∀ y0 y1, LeO (soffitref01_Parse.j0 k y0 y1) (soffitref01_Parse.j0 (k + 1) y0 y1)) ∧ (∀ y0 y1, LeO (soffitref01_Parse.j1 k y0 y1) (soffitref01_Parse.j1 (k + 1) y0 y1)) ∧ (∀ y0 y1 y2 y3, LeO (soffitref01_Parse.l0 k y0 y1 y2 y3) (soffitref01_Parse.l0 (k + 1) y0 y1 y2 y3)) ∧ (∀ y0 y1 y2 y3 y4, LeO (soffitref01_Parse.j3 k y0 y1 y2 y3 y4) (soffitref01_Parse.j3 (k + 1) y0 y1 y2 y3 y4)) ∧ (∀ y0 y1 y2, LeO (soffitref01_Parse.j4 k y0 y1 y2) (soffitref01_Parse.j4 (k + 1) y0 y1 y2)) ∧ (∀ y0 y1 y2 y3, LeO (soffitref01_Parse.j5 k y0 y1 y2 y3) (soffitref01_Parse.j5 (k + 1) y0 y1 y2 y3)) ∧ (∀ y0 y1 y2, LeO (soffitref01_Parse.j7 k y0 y1 y2) (soffitref01_Parse.j7 (k + 1) y0 y1 y2)) ∧ (∀ y0 y1 y2 y3, LeO (soffitref01_Parse.j8 k y0 y1 y2 y3) (soffitref01_Parse.j8 (k + 1) y0 y1 y2 y3)) ∧ (∀ y0 y1 y2 y3 y4, LeO (soffitref01_Parse.l2 k y0 y1 y2 y3 y4) (soffitref01_Parse.l2 (k + 1) y0 y1 y2 y3 y4)) ∧ (∀ y0 y1 y2, LeO (soffitref01_Parse.l1 k y0 y1 y2) (soffitref01_Parse.l1 (k + 1) y0 y1 y2))
  | 0 => ⟨fun _ _ r h => by simp [soffitref01_Parse.j0] at h, fun _ _ r h => by simp [soffitref01_Parse.j1] at h, fun _ _ _ _ r h => by simp [soffitref01_Parse.l0] at h, fun _ _ _ _ _ r h => by simp [soffitref01_Parse.j3] at h, fun _ _ _ r h => by simp [soffitref01_Parse.j4] at h, fun _ _ _ _ r h => by simp [soffitref01_Parse.j5] at h, fun _ _ _ r h => by simp [soffitref01_Parse.j7] at h, fun _ _ _ _ r h => by simp [soffitref01_Parse.j8] at h, fun _ _ _ _ _ r h => by simp [soffitref01_Parse.l2] at h, fun _ _ _ r h => by simp [soffitref01_Parse.l1] at h⟩
  | k + 1 => by
    obtain ⟨ih0, ih1, ih2, ih3, ih4, ih5, ih6, ih7, ih8, ih9⟩ := soffitref01_Parse.mono_l k
    refine ⟨?_, ?_, ?_, ?_, ?_, ?_, ?_, ?_, ?_, ?_⟩
    · intro y0 y1
      unfold soffitref01_Parse.j0
      repeat' first
      | (with_reducible exact ih0 _ _)
      | (with_reducible exact ih1 _ _)
      | (with_reducible exact ih2 _ _ _ _)
      | (with_reducible exact ih3 _ _ _ _ _)
      | (with_reducible exact ih4 _ _ _)
      | (with_reducible exact ih5 _ _ _ _)
      | (with_reducible exact ih6 _ _ _)
      | (with_reducible exact ih7 _ _ _ _)
      | (with_reducible exact ih8 _ _ _ _ _)
      | (with_reducible exact ih9 _ _ _)
      | (with_reducible exact soffitref01_dec.mono _ _ _ _)
      | (with_reducible exact LeO.refl _)
      | (with_reducible exact LeO.none _)
      | (with_reducible refine LeO.ite ?_ ?_)
      | (with_reducible refine LeO.bind ?_ (fun _ => ?_))
      | exact ih0 _ _
      | exact ih1 _ _
      | exact ih2 _ _ _ _
      | exact ih3 _ _ _ _ _
      | exact ih4 _ _ _
      | exact ih5 _ _ _ _
      | exact ih6 _ _ _
      | exact ih7 _ _ _ _
      | exact ih8 _ _ _ _ _
      | exact ih9 _ _ _
      | exact soffitref01_dec.mono _ _ _ _
      | exact LeO.none _
      | refine LeO.ite ?_ ?_
      | refine LeO.bind ?_ (fun _ => ?_)
    · intro y0 y1
      unfold soffitref01_Parse.j1
      repeat' first
      | (with_reducible exact ih0 _ _)
      | (with_reducible exact ih1 _ _)
      | (with_reducible exact ih2 _ _ _ _)
      | (with_reducible exact ih3 _ _ _ _ _)
      | (with_reducible exact ih4 _ _ _)
      | (with_reducible exact ih5 _ _ _ _)
      | (with_reducible exact ih6 _ _ _)
      | (with_reducible exact ih7 _ _ _ _)
      | (with_reducible exact ih8 _ _ _ _ _)
      | (with_reducible exact ih9 _ _ _)
      | (with_reducible exact soffitref01_dec.mono _ _ _ _)
      | (with_reducible exact LeO.refl _)
      | (with_reducible exact LeO.none _)
      | (with_reducible refine LeO.ite ?_ ?_)
      | (with_reducible refine LeO.bind ?_ (fun _ => ?_))
      | exact ih0 _ _
      | exact ih1 _ _
      | exact ih2 _ _ _ _
      | exact ih3 _ _ _ _ _
      | exact ih4 _ _ _
      | exact ih5 _ _ _ _
      | exact ih6 _ _ _
      | exact ih7 _ _ _ _
      | exact ih8 _ _ _ _ _
      | exact ih9 _ _ _
      | exact soffitref01_dec.mono _ _ _ _
      | exact LeO.none _
      | refine LeO.ite ?_ ?_
      | refine LeO.bind ?_ (fun _ => ?_)
    · intro y0 y1 y2 y3
      unfold soffitref01_Parse.l0
      repeat' first
      | (with_reducible exact ih0 _ _)
      | (with_reducible exact ih1 _ _)
      | (with_reducible exact ih2 _ _ _ _)
      | (with_reducible exact ih3 _ _ _ _ _)
      | (with_reducible exact ih4 _ _ _)
      | (with_reducible exact ih5 _ _ _ _)
      | (with_reducible exact ih6 _ _ _)
      | (with_reducible exact ih7 _ _ _ _)
      | (with_reducible exact ih8 _ _ _ _ _)
      | (with_reducible exact ih9 _ _ _)
      | (with_reducible exact soffitref01_dec.mono _ _ _ _)
      | (with_reducible exact LeO.refl _)
      | (with_reducible exact LeO.none _)
      | (with_reducible refine LeO.ite ?_ ?_)
      | (with_reducible refine LeO.bind ?_ (fun _ => ?_))
      | exact ih0 _ _
      | exact ih1 _ _
      | exact ih2 _ _ _ _
      | exact ih3 _ _ _ _ _
      | exact ih4 _ _ _
      | exact ih5 _ _ _ _
      | exact ih6 _ _ _
      | exact ih7 _ _ _ _
      | exact ih8 _ _ _ _ _
      | exact ih9 _ _ _
      | exact soffitref01_dec.mono _ _ _ _
      | exact LeO.none _
      | refine LeO.ite ?_ ?_
      | refine LeO.bind ?_ (fun _ => ?_)
    · intro y0 y1 y2 y3 y4
      unfold soffitref01_Parse.j3
      repeat' first
      | (with_reducible exact ih0 _ _)
      | (with_reducible exact ih1 _ _)
      | (with_reducible exact ih2 _ _ _ _)
      | (with_reducible exact ih3 _ _ _ _ _)
      | (with_reducible exact ih4 _ _ _)
      | (with_reducible exact ih5 _ _ _ _)
      | (with_reducible exact ih6 _ _ _)
      | (with_reducible exact ih7 _ _ _ _)
      | (with_reducible exact ih8 _ _ _ _ _)
      | (with_reducible exact ih9 _ _ _)
      | (with_reducible exact soffitref01_dec.mono _ _ _ _)
      | (with_reducible exact LeO.refl _)
      | (with_reducible exact LeO.none _)
      | (with_reducible refine LeO.ite ?_ ?_)
      | (with_reducible refine LeO.bind ?_ (fun _ => ?_))
      | exact ih0 _ _
      | exact ih1 _ _
      | exact ih2 _ _ _ _
      | exact ih3 _ _ _ _ _
      | exact ih4 _ _ _
      | exact ih5 _ _ _ _
      | exact ih6 _ _ _
      | exact ih7 _ _ _ _
      | exact ih8 _ _ _ _ _
      | exact ih9 _ _ _
      | exact soffitref01_dec.mono _ _ _ _
      | exact LeO.none _
      | refine LeO.ite ?_ ?_
      | refine LeO.bind ?_ (fun _ => ?_)
    · intro y0 y1 y2
      unfold soffitref01_Parse.j4
      repeat' first
      | (with_reducible exact ih0 _ _)
      | (with_reducible exact ih1 _ _)
      | (with_reducible exact ih2 _ _ _ _)
      | (with_reducible exact ih3 _ _ _ _ _)
      | (with_reducible exact ih4 _ _ _)
      | (with_reducible exact ih5 _ _ _ _)
      | (with_reducible exact ih6 _ _ _)
      | (with_reducible exact ih7 _ _ _ _)
      | (with_reducible exact ih8 _ _ _ _ _)
      | (with_reducible exact ih9 _ _ _)
      | (with_reducible exact soffitref01_dec.mono _ _ _ _)
      | (with_reducible exact LeO.refl _)
      | (with_reducible exact LeO.none _)
      | (with_reducible refine LeO.ite ?_ ?_)
      | (with_reducible refine LeO.bind ?_ (fun _ => ?_))
      | exact ih0 _ _
      | exact ih1 _ _
      | exact ih2 _ _ _ _
      | exact ih3 _ _ _ _ _
      | exact ih4 _ _ _
      | exact ih5 _ _ _ _
      | exact ih6 _ _ _
      | exact ih7 _ _ _ _
      | exact ih8 _ _ _ _ _
      | exact ih9 _ _ _
      | exact soffitref01_dec.mono _ _ _ _
      | exact LeO.none _
      | refine LeO.ite ?_ ?_
      | refine LeO.bind ?_ (fun _ => ?_)
    · intro y0 y1 y2 y3
      unfold soffitref01_Parse.j5
      repeat' first
      | (with_reducible exact ih0 _ _)
      | (with_reducible exact ih1 _ _)
      | (with_reducible exact ih2 _ _ _ _)
      | (with_reducible exact ih3 _ _ _ _ _)
      | (with_reducible exact ih4 _ _ _)
      | (with_reducible exact ih5 _ _ _ _)
      | (with_reducible exact ih6 _ _ _)
      | (with_reducible exact ih7 _ _ _ _)
      | (with_reducible exact ih8 _ _ _ _ _)
      | (with_reducible exact ih9 _ _ _)
      | (with_reducible exact soffitref01_dec.mono _ _ _ _)
      | (with_reducible exact LeO.refl _)
      | (with_reducible exact LeO.none _)
      | (with_reducible refine LeO.ite ?_ ?_)
      | (with_reducible refine LeO.bind ?_ (fun _ => ?_))
      | exact ih0 _ _
      | exact ih1 _ _
      | exact ih2 _ _ _ _
      | exact ih3 _ _ _ _ _
      | exact ih4 _ _ _
      | exact ih5 _ _ _ _
      | exact ih6 _ _ _
      | exact ih7 _ _ _ _
      | exact ih8 _ _ _ _ _
      | exact ih9 _ _ _
      | exact soffitref01_dec.mono _ _ _ _
      | exact LeO.none _
      | refine LeO.ite ?_ ?_
      | refine LeO.bind ?_ (fun _ => ?_)
    · intro y0 y1 y2
      unfold soffitref01_Parse.j7
      repeat' first
      | (with_reducible exact ih0 _ _)
      | (with_reducible exact ih1 _ _)
      | (with_reducible exact ih2 _ _ _ _)
      | (with_reducible exact ih3 _ _ _ _ _)
      | (with_reducible exact ih4 _ _ _)
      | (with_reducible exact ih5 _ _ _ _)
      | (with_reducible exact ih6 _ _ _)
      | (with_reducible exact ih7 _ _ _ _)
      | (with_reducible exact ih8 _ _ _ _ _)
      | (with_reducible exact ih9 _ _ _)
      | (with_reducible exact soffitref01_dec.mono _ _ _ _)
      | (with_reducible exact LeO.refl _)
      | (with_reducible exact LeO.none _)
      | (with_reducible refine LeO.ite ?_ ?_)
      | (with_reducible refine LeO.bind ?_ (fun _ => ?_))
      | exact ih0 _ _
      | exact ih1 _ _
      | exact ih2 _ _ _ _
      | exact ih3 _ _ _ _ _
      | exact ih4 _ _ _
      | exact ih5 _ _ _ _
      | exact ih6 _ _ _
      | exact ih7 _ _ _ _
      | exact ih8 _ _ _ _ _
      | exact ih9 _ _ _
      | exact soffitref01_dec.mono _ _ _ _
      | exact LeO.none _
      | refine LeO.ite ?_ ?_
      | refine LeO.bind ?_ (fun _ => ?_)
    · intro y0 y1 y2 y3
      unfold soffitref01_Parse.j8
      repeat' first
      | (with_reducible exact ih0 _ _)
      | (with_reducible exact ih1 _ _)
      | (with_reducible exact ih2 _ _ _ _)
      | (with_reducible exact ih3 _ _ _ _ _)
      | (with_reducible exact ih4 _ _ _)
      | (with_reducible exact ih5 _ _ _ _)
      | (with_reducible exact ih6 _ _ _)
      | (with_reducible exact ih7 _ _ _ _)
      | (with_reducible exact ih8 _ _ _ _ _)
      | (with_reducible exact ih9 _ _ _)
      | (with_reducible exact soffitref01_dec.mono _ _ _ _)
      | (with_reducible exact LeO.refl _)
      | (with_reducible exact LeO.none _)
      | (with_reducible refine LeO.ite ?_ ?_)
      | (with_reducible refine LeO.bind ?_ (fun _ => ?_))
      | exact ih0 _ _
      | exact ih1 _ _
      | exact ih2 _ _ _ _
      | exact ih3 _ _ _ _ _
      | exact ih4 _ _ _
      | exact ih5 _ _ _ _
      | exact ih6 _ _ _
      | exact ih7 _ _ _ _
      | exact ih8 _ _ _ _ _
      | exact ih9 _ _ _
      | exact soffitref01_dec.mono _ _ _ _
      | exact LeO.none _
      | refine LeO.ite ?_ ?_
      | refine LeO.bind ?_ (fun _ => ?_)
    · intro y0 y1 y2 y3 y4
      unfold soffitref01_Parse.l2
      repeat' first
      | (with_reducible exact ih0 _ _)
      | (with_reducible exact ih1 _ _)
      | (with_reducible exact ih2 _ _ _ _)
      | (with_reducible exact ih3 _ _ _ _ _)
      | (with_reducible exact ih4 _ _ _)
      | (with_reducible exact ih5 _ _ _ _)
      | (with_reducible exact ih6 _ _ _)
      | (with_reducible exact ih7 _ _ _ _)
      | (with_reducible exact ih8 _ _ _ _ _)
      | (with_reducible exact ih9 _ _ _)
      | (with_reducible exact soffitref01_dec.mono _ _ _ _)
      | (with_reducible exact LeO.refl _)
      | (with_reducible exact LeO.none _)
      | (with_reducible refine LeO.ite ?_ ?_)
      | (with_reducible refine LeO.bind ?_ (fun _ => ?_))
      | exact ih0 _ _
      | exact ih1 _ _
      | exact ih2 _ _ _ _
      | exact ih3 _ _ _ _ _
      | exact ih4 _ _ _
      | exact ih5 _ _ _ _
      | exact ih6 _ _ _
      | exact ih7 _ _ _ _
      | exact ih8 _ _ _ _ _
      | exact ih9 _ _ _
      | exact soffitref01_dec.mono _ _ _ _
      | exact LeO.none _
      | refine LeO.ite ?_ ?_
      | refine LeO.bind ?_ (fun _ => ?_)
    · intro y0 y1 y2
      unfold soffitref01_Parse.l1
      repeat' first
      | (with_reducible exact ih0 _ _)
      | (with_reducible exact ih1 _ _)
      | (with_reducible exact ih2 _ _ _ _)
      | (with_reducible exact ih3 _ _ _ _ _)
      | (with_reducible exact ih4 _ _ _)
      | (with_reducible exact ih5 _ _ _ _)
      | (with_reducible exact ih6 _ _ _)
      | (with_reducible exact ih7 _ _ _ _)
      | (with_reducible exact ih8 _ _ _ _ _)
      | (with_reducible exact ih9 _ _ _)
      | (with_reducible exact soffitref01_dec.mono _ _ _ _)
      | (with_reducible exact LeO.refl _)
      | (with_reducible exact LeO.none _)
      | (with_reducible refine LeO.ite ?_ ?_)
      | (with_reducible refine LeO.bind ?_ (fun _ => ?_))
      | exact ih0 _ _
      | exact ih1 _ _
      | exact ih2 _ _ _ _
      | exact ih3 _ _ _ _ _
      | exact ih4 _ _ _
      | exact ih5 _ _ _ _
      | exact ih6 _ _ _
      | exact ih7 _ _ _ _
      | exact ih8 _ _ _ _ _
      | exact ih9 _ _ _
      | exact soffitref01_dec.mono _ _ _ _
      | exact LeO.none _
      | refine LeO.ite ?_ ?_
      | refine LeO.bind ?_ (fun _ => ?_)
theorem soffitref01_Parse.mono : ∀ a0 k, LeO (soffitref01_Parse.f k a0) (soffitref01_Parse.f (k + 1) a0) := by
  intro a0 k
  obtain ⟨ih0, ih1, ih2, ih3, ih4, ih5, ih6, ih7, ih8, ih9⟩ := soffitref01_Parse.mono_l k
  unfold soffitref01_Parse.f
  repeat' first
      | (with_reducible exact ih0 _ _)
      | (with_reducible exact ih1 _ _)
      | (with_reducible exact ih2 _ _ _ _)
      | (with_reducible exact ih3 _ _ _ _ _)
      | (with_reducible exact ih4 _ _ _)
      | (with_reducible exact ih5 _ _ _ _)
      | (with_reducible exact ih6 _ _ _)
      | (with_reducible exact ih7 _ _ _ _)
      | (with_reducible exact ih8 _ _ _ _ _)
      | (with_reducible exact ih9 _ _ _)
      | (with_reducible exact soffitref01_dec.mono _ _ _ _)
      | (with_reducible exact LeO.refl _)
      | (with_reducible exact LeO.none _)
      | (with_reducible refine LeO.ite ?_ ?_)
      | (with_reducible refine LeO.bind ?_ (fun _ => ?_))
      | exact ih0 _ _
      | exact ih1 _ _
      | exact ih2 _ _ _ _
      | exact ih3 _ _ _ _ _
      | exact ih4 _ _ _
      | exact ih5 _ _ _ _
      | exact ih6 _ _ _
      | exact ih7 _ _ _ _
      | exact ih8 _ _ _ _ _
      | exact ih9 _ _ _
      | exact soffitref01_dec.mono _ _ _ _
      | exact LeO.none _
      | refine LeO.ite ?_ ?_
      | refine LeO.bind ?_ (fun _ => ?_)
set_option maxHeartbeats 8000000 in
set_option maxRecDepth 100000 in
theorem soffitref01_Parse.calls (k : Nat) (a0 : ByteArray) (r1 : Int) (r2 : Int) (r3 : Int) (w : World) (h : soffitref01_Parse.f k a0 = some (r1, r2, r3)) :
    Calls Tryd.prog 19 #[.string a0] w fun e w' => e = .returned (.tuple #[.agg #[.int .i64 r1, .int .i64 r2], .int .i64 r3]) ∧ Below w.heap.size w w' := by
  have hu23 := Tryd.underlying23
  have HB := Aside0.mk (Below.refl w.heap.size w)
  have H : (if (a0.size : Int) > 0 then (if 0 < (a0.size : Int) then (soffitref01_Parse.j0 k a0 ((bt a0 0) == 45)) else (none)) else (soffitref01_Parse.j0 k a0 false)) = some (r1, r2, r3) := h
  clear h
  have HC2 := Aside0.mk H
  clear H
  go_enter Tryd.func19, Tryd.ntmps19
  go_upto_region 1 with (first | ((with_reducible refine gate_dst (N := 2) rfl ?_); (try (refine gate_guard (by rfl) ?_; dsimp only)); refine box_event ?hg (N := 2) ?hd (cs := #[.int .i64 0, .int .i64 0]) (t := 23) ?hr ?_; (case hd => rfl); (case hg => rfl); (case hr => first | (go_simp; done) | (go_simp; rfl)); intro gb281 hg w3 hbox hb; have n0_ := Aside0.mk (below_step (by repeat (first | (with_reducible first | exact HB.out | apply below_alloc | apply pw_below_drewN | apply below_drew1) | exact HB.out)) hb); have n1_ := Aside0.mk (hbox); have n2_ := Aside0.mk ((by rw [hg]; exact (below_size (by repeat (first | (with_reducible first | exact HB.out | apply below_alloc | apply pw_below_drewN | apply below_drew1) | exact HB.out))) : w.heap.size ≤ gb281)); have n3_ := Aside0.mk ((by rw [hg]; exact (below_size (by repeat (first | (with_reducible first | exact HB.out | apply below_alloc | apply pw_below_drewN | apply below_drew1) | exact HB.out))) : w.heap.size ≤ gb281)); clear HB; have HB := n0_; have BK281 := n1_; have GW281 := n2_; have GE281 := n3_; clear n0_ n1_ n2_ n3_; clear hb hbox hg))
  repeat (go_quiet (first | ((with_reducible refine gate_dst (N := 2) rfl ?_); (try (refine gate_guard (by rfl) ?_; dsimp only)); refine box_event ?hg (N := 2) ?hd (cs := #[.int .i64 0, .int .i64 0]) (t := 23) ?hr ?_; (case hd => rfl); (case hg => rfl); (case hr => first | (go_simp; done) | (go_simp; rfl)); intro gb281 hg w3 hbox hb; have n0_ := Aside0.mk (below_step (by repeat (first | (with_reducible first | exact HB.out | apply below_alloc | apply pw_below_drewN | apply below_drew1) | exact HB.out)) hb); have n1_ := Aside0.mk (hbox); have n2_ := Aside0.mk ((by rw [hg]; exact (below_size (by repeat (first | (with_reducible first | exact HB.out | apply below_alloc | apply pw_below_drewN | apply below_drew1) | exact HB.out))) : w.heap.size ≤ gb281)); have n3_ := Aside0.mk ((by rw [hg]; exact (below_size (by repeat (first | (with_reducible first | exact HB.out | apply below_alloc | apply pw_below_drewN | apply below_drew1) | exact HB.out))) : w.heap.size ≤ gb281)); clear HB; have HB := n0_; have BK281 := n1_; have GW281 := n2_; have GE281 := n3_; clear n0_ n1_ n2_ n3_; clear hb hbox hg)); go_upto_region 1 with (first | ((with_reducible refine gate_dst (N := 2) rfl ?_); (try (refine gate_guard (by rfl) ?_; dsimp only)); refine box_event ?hg (N := 2) ?hd (cs := #[.int .i64 0, .int .i64 0]) (t := 23) ?hr ?_; (case hd => rfl); (case hg => rfl); (case hr => first | (go_simp; done) | (go_simp; rfl)); intro gb281 hg w3 hbox hb; have n0_ := Aside0.mk (below_step (by repeat (first | (with_reducible first | exact HB.out | apply below_alloc | apply pw_below_drewN | apply below_drew1) | exact HB.out)) hb); have n1_ := Aside0.mk (hbox); have n2_ := Aside0.mk ((by rw [hg]; exact (below_size (by repeat (first | (with_reducible first | exact HB.out | apply below_alloc | apply pw_below_drewN | apply below_drew1) | exact HB.out))) : w.heap.size ≤ gb281)); have n3_ := Aside0.mk ((by rw [hg]; exact (below_size (by repeat (first | (with_reducible first | exact HB.out | apply below_alloc | apply pw_below_drewN | apply below_drew1) | exact HB.out))) : w.heap.size ≤ gb281)); clear HB; have HB := n0_; have BK281 := n1_; have GW281 := n2_; have GE281 := n3_; clear n0_ n1_ n2_ n3_; clear hb hbox hg)))
  (try simp only [Act.put, List.setIfInBounds_toArray, List.set_cons_zero, List.set_cons_succ])
  go_cut [4] (fun v4 wc => ∃ (kq : Nat) (x4_1 : Bool), v4 = .bool x4_1 ∧ Aside0 (soffitref01_Parse.j0 kq a0 x4_1 = some (r1, r2, r3)) ∧ Aside0 (kq ≤ k) ∧ Aside0 (wc.heap[gb281]? = some (.cells #[.int .i64 0, .int .i64 0] 23 (0, 0))) ∧ Aside0 (Below w.heap.size w wc))
  case first =>
    have H := HC2.out
    clear HC2
    by_cases c4 : (a0.size : Int) > 0
    · rw [if_pos c4] at H
      have c4b0 : decide (0 < (a0.size : Int)) = true := decide_eq_true c4
      have c4b1 : decide (0 < a0.size) = true := decide_eq_true (by omega)
      clear c4
      (first | rw [c4b0] | (simp only [i64_w, i32_w]; rw [c4b0]) | skip)
      by_cases c5 : 0 < (a0.size : Int)
      · rw [if_pos c5] at H
        have c5b0 : decide (0 < (a0.size : Int)) = true := decide_eq_true c5
        have c5b1 : decide (0 < a0.size) = true := decide_eq_true (by omega)
        clear c5
        have H' := Aside0.mk H
        clear H
        have p6 : 0 ≤ (0 : Int) := (by omega)
        have q6 : 0 < a0.size := (by have : (0 : Int) < (a0.size : Int) := of_decide_eq_true (by first | (with_reducible assumption) | assumption); omega)
        have hx6 : ∀ h : 0 < a0.size, ((a0[0]'h).toNat : Int) = bt a0 0 := bt_at a0 0
        clear p6
        have qi6 : (0 < (a0.size : Int)) = True := eq_true (of_decide_eq_true (by first | (with_reducible assumption) | assumption))
        replace q6 := eq_true q6
        go_wp2
        repeat (go_quiet (fail); try go_wp2)
        go_meet
        case rel => exact ⟨_, (((bt a0 0) == 45)), (by first | rfl | (simp; done) | (simp [*]; done)), H', ⟨by first | omega | exact Nat.le_refl _⟩, ⟨by (with_reducible repeat (first | refine blk_drewN ?_ _ | refine blk_drew ?_ | refine blk_alloc ?_ _)); exact BK281.out⟩, ⟨by repeat (first | (with_reducible first | exact HB.out | apply below_alloc | apply pw_below_drewN | apply below_drew1 | refine below_set ?_ GE281.out) | exact HB.out)⟩⟩
      · rw [if_neg c5] at H
        exact absurd H (by simp)
    · rw [if_neg c4] at H
      have c4b0 : decide (0 < (a0.size : Int)) = false := decide_eq_false c4
      have c4b1 : decide (0 < a0.size) = false := decide_eq_false (by omega)
      clear c4
      (first | rw [c4b0] | (simp only [i64_w, i32_w]; rw [c4b0]) | skip)
      have H' := Aside0.mk H
      clear H
      go_wp2
      repeat (go_quiet (fail); try go_wp2)
      go_meet
      case rel => exact ⟨_, (false), (by first | rfl | (simp; done) | (simp [*]; done)), H', ⟨by first | omega | exact Nat.le_refl _⟩, ⟨by (with_reducible repeat (first | refine blk_drewN ?_ _ | refine blk_drew ?_ | refine blk_alloc ?_ _)); exact BK281.out⟩, ⟨by repeat (first | (with_reducible first | exact HB.out | apply below_alloc | apply pw_below_drewN | apply below_drew1 | refine below_set ?_ GE281.out) | exact HB.out)⟩⟩
  case rest =>
    clear HC2
    try clear c1
    try clear p2
    try clear c4
    try clear c4b0
    try clear c4b1
    try clear c5
    try clear c5b0
    try clear c5b1
    try clear p6
    try clear q6
    try clear hx6
    try clear qi6
    try clear p6
    try clear q6
    obtain ⟨kq, x4_1, rfl, HA, HJ1, BK281, HB⟩ := hcut
    cases kq with
    | zero => exact absurd HA.out (by simp [soffitref01_Parse.j0])
    | succ kj1 =>
      have H := HA.out
      clear HA
      simp only [soffitref01_Parse.j0] at H
      have HC7 := Aside0.mk H
      clear H
      go_upto_if 20 with (fail)
      repeat (go_quiet (fail); go_upto_if 20 with (fail))
      go_cut [0] (fun v0 wc => ∃ (kq : Nat) (x0_6 : ByteArray), v0 = .string x0_6 ∧ Aside0 (soffitref01_Parse.j1 kq x0_6 x4_1 = some (r1, r2, r3)) ∧ Aside0 (kq ≤ kj1) ∧ Aside0 (wc.heap[gb281]? = some (.cells #[.int .i64 0, .int .i64 0] 23 (0, 0))) ∧ Aside0 (Below w.heap.size w wc))
      case first =>
        have H := HC7.out
        clear HC7
        by_cases c8 : x4_1 = true
        · subst c8
          have H1 : (if 1 ≤ (a0.size : Int) then (soffitref01_Parse.j1 kj1 (a0.extract 1 a0.size) true) else (none)) = some (r1, r2, r3) := by rw [if_pos rfl] at H; exact H
          clear H
          have H := H1
          clear H1
          by_cases c9 : 1 ≤ (a0.size : Int)
          · rw [if_pos c9] at H
            have c9b0 := eq_true c9
            have c9b1 : decide (1 ≤ (a0.size : Int)) = true := decide_eq_true c9
            clear c9
            have H' := Aside0.mk H
            clear H
            go_wp2
            repeat (go_quiet (fail); try go_wp2)
            go_meet
            case rel => exact ⟨_, (a0.extract 1 a0.size), (by first | rfl | (simp; done) | (simp [*]; done)), H', ⟨by have := HJ1.out; first | omega | exact Nat.le_refl _⟩, ⟨by (with_reducible repeat (first | refine blk_drewN ?_ _ | refine blk_drew ?_ | refine blk_alloc ?_ _)); exact BK281.out⟩, ⟨by repeat (first | (with_reducible first | exact HB.out | apply below_alloc | apply pw_below_drewN | apply below_drew1 | refine below_set ?_ GE281.out) | exact HB.out)⟩⟩
          · rw [if_neg c9] at H
            exact absurd H (by simp)
        · replace c8 := Bool.eq_false_iff.mpr c8
          subst c8
          have H1 : (soffitref01_Parse.j1 kj1 a0 false) = some (r1, r2, r3) := by rw [if_neg (show ¬ (false = true) by decide)] at H; exact H
          clear H
          have H := H1
          clear H1
          have H' := Aside0.mk H
          clear H
          go_wp2
          repeat (go_quiet (fail); try go_wp2)
          go_meet
          case rel => exact ⟨_, (a0), (by first | rfl | (simp; done) | (simp [*]; done)), H', ⟨by have := HJ1.out; first | omega | exact Nat.le_refl _⟩, ⟨by (with_reducible repeat (first | refine blk_drewN ?_ _ | refine blk_drew ?_ | refine blk_alloc ?_ _)); exact BK281.out⟩, ⟨by repeat (first | (with_reducible first | exact HB.out | apply below_alloc | apply pw_below_drewN | apply below_drew1 | refine below_set ?_ GE281.out) | exact HB.out)⟩⟩
      case rest =>
        clear HC7
        try clear c1
        try clear p2
        try clear c4
        try clear c4b0
        try clear c4b1
        try clear c5
        try clear c5b0
        try clear c5b1
        try clear p6
        try clear q6
        try clear hx6
        try clear qi6
        try clear c8
        try clear c9
        try clear c9b0
        try clear c9b1
        try clear p2
        try clear p6
        try clear q6
        obtain ⟨kq, x0_6, rfl, HA, HJ6, BK281, HB⟩ := hcut
        cases kq with
        | zero => exact absurd HA.out (by simp [soffitref01_Parse.j1])
        | succ kj6 =>
          have H := HA.out
          clear HA
          simp only [soffitref01_Parse.j1] at H
          have H' := Aside0.mk H
          clear H
          go_wp2
          repeat (go_quiet (fail); try go_wp2)
          (try simp only [Act.put, List.setIfInBounds_toArray, List.set_cons_succ, List.set_cons_zero])
          go_loopg [5, 6] kj6 (fun kq v5 v6 w' => ∃ (x5_3 : Int) (x6_3 : Int) (x282000_3 : Int) (x282001_3 : Int), v5 = .int .i64 x5_3 ∧ v6 = .int .i64 x6_3 ∧ Aside0 (soffitref01_Parse.l0 kq x0_6 x4_1 x5_3 x6_3 = some (r1, r2, r3)) ∧ Aside0 (kq ≤ kj6) ∧ Aside0 (w'.heap[gb281]? = some (.cells #[.int .i64 x282000_3, .int .i64 x282001_3] 23 (0, 0))) ∧ Aside0 (Below w.heap.size w w'))
          case atStart => exact ⟨((-1)), (0), (0), (0), (by first | rfl | (simp; done) | (simp [*]; done)), (by first | rfl | (simp; done) | (simp [*]; done)), H', ⟨Nat.le_refl _⟩, ⟨by (with_reducible repeat (first | refine blk_drewN ?_ _ | refine blk_drew ?_ | refine blk_alloc ?_ _)); exact BK281.out⟩, ⟨by repeat (first | (with_reducible first | exact HB.out | apply below_alloc | apply pw_below_drewN | apply below_drew1 | refine below_set ?_ GE281.out) | exact HB.out)⟩⟩
          case round =>
            clear H'
            try clear c1
            try clear p2
            try clear c4
            try clear c4b0
            try clear c4b1
            try clear c5
            try clear c5b0
            try clear c5b1
            try clear p6
            try clear q6
            try clear hx6
            try clear qi6
            try clear c8
            try clear c9
            try clear c9b0
            try clear c9b1
            try clear p2
            try clear p6
            try clear q6
            obtain ⟨x5_3, x6_3, x282000_3, x282001_3, rfl, rfl, HA, HK3, BK281, HB⟩ := hrel
            cases gk with
            | zero => exact absurd HA.out (by simp [soffitref01_Parse.l0])
            | succ k3 =>
              have H := HA.out
              clear HA
              simp only [soffitref01_Parse.l0] at H
              by_cases c10 : x6_3 < (x0_6.size : Int)
              · rw [if_pos c10] at H
                have c10b0 : decide (x6_3 < (x0_6.size : Int)) = true := decide_eq_true c10
                clear c10
                have HC11 := Aside0.mk H
                clear H
                go_upto_region 8 with (fail)
                repeat (go_quiet (fail); go_upto_region 8 with (fail))
                go_cut [36] (fun v36 wc => ∃ (kq : Nat) (x36_10 : Bool), v36 = .bool x36_10 ∧ Aside0 (soffitref01_Parse.j3 kq x0_6 x4_1 x5_3 x6_3 x36_10 = some (r1, r2, r3)) ∧ Aside0 (kq ≤ k3) ∧ Aside0 (wc.heap[gb281]? = some (.cells #[.int .i64 x282000_3, .int .i64 x282001_3] 23 (0, 0))) ∧ Aside0 (Below w.heap.size w wc))
                case first =>
                  have H := HC11.out
                  clear HC11
                  by_cases c12 : 0 ≤ x6_3
                  · rw [if_pos c12] at H
                    have c12b0 : decide (0 ≤ x6_3) = true := decide_eq_true c12
                    clear c12
                    (first | rw [c12b0] | (simp only [i64_w, i32_w]; rw [c12b0]) | skip)
                    by_cases c14 : (bt x0_6 x6_3) = 46
                    · rw [if_pos c14] at H
                      have c14b0 : ((bt x0_6 x6_3) == 46) = true := beq_iff_eq.mpr c14
                      have c14b1 : ((bt x0_6 x6_3) != 46) = false := bne_eq_false_iff_eq.mpr c14
                      clear c14
                      have H' := Aside0.mk H
                      clear H
                      have p13 : 0 ≤ (x6_3 : Int) := of_decide_eq_true (by first | (with_reducible assumption) | assumption)
                      have q13 : x6_3 < (x0_6.size : Int) := of_decide_eq_true (by first | (with_reducible assumption) | assumption)
                      have hx13 := bt_at x0_6 x6_3
                      replace p13 := eq_true p13
                      replace q13 := eq_true q13
                      go_wp2
                      repeat (go_quiet (fail); try go_wp2)
                      go_meet
                      case rel => exact ⟨_, (decide (x5_3 < 0)), (by first | rfl | (simp; done) | (simp [*]; done)), H', ⟨by have := HJ1.out; have := HJ6.out; have := HK3.out; first | omega | exact Nat.le_refl _⟩, ⟨by (with_reducible repeat (first | refine blk_drewN ?_ _ | refine blk_drew ?_ | refine blk_alloc ?_ _)); exact BK281.out⟩, ⟨by repeat (first | (with_reducible first | exact HB.out | apply below_alloc | apply pw_below_drewN | apply below_drew1 | refine below_set ?_ GE281.out) | exact HB.out)⟩⟩
                    · rw [if_neg c14] at H
                      have c14b0 : ((bt x0_6 x6_3) == 46) = false := beq_eq_false_iff_ne.mpr c14
                      have c14b1 : ((bt x0_6 x6_3) != 46) = true := bne_iff_ne.mpr c14
                      have H' := Aside0.mk H
                      clear H
                      have p13 : 0 ≤ (x6_3 : Int) := of_decide_eq_true (by first | (with_reducible assumption) | assumption)
                      have q13 : x6_3 < (x0_6.size : Int) := of_decide_eq_true (by first | (with_reducible assumption) | assumption)
                      have hx13 := bt_at x0_6 x6_3
                      replace p13 := eq_true p13
                      replace q13 := eq_true q13
                      go_wp2
                      repeat (go_quiet (fail); try go_wp2)
                      go_meet
                      case rel => exact ⟨_, (false), (by first | rfl | (simp; done) | (simp [*]; done)), H', ⟨by have := HJ1.out; have := HJ6.out; have := HK3.out; first | omega | exact Nat.le_refl _⟩, ⟨by (with_reducible repeat (first | refine blk_drewN ?_ _ | refine blk_drew ?_ | refine blk_alloc ?_ _)); exact BK281.out⟩, ⟨by repeat (first | (with_reducible first | exact HB.out | apply below_alloc | apply pw_below_drewN | apply below_drew1 | refine below_set ?_ GE281.out) | exact HB.out)⟩⟩
                  · rw [if_neg c12] at H
                    exact absurd H (by simp)
                case rest =>
                  clear HC11
                  try clear c1
                  try clear p1
                  try clear q1
                  try clear hx1
                  try clear p2
                  try clear c4
                  try clear c4b0
                  try clear c4b1
                  try clear c5
                  try clear c5b0
                  try clear c5b1
                  try clear p6
                  try clear q6
                  try clear hx6
                  try clear qi6
                  try clear c8
                  try clear c9
                  try clear c9b0
                  try clear c9b1
                  try clear c10
                  try clear c10b0
                  try clear c12
                  try clear c12b0
                  try clear p13
                  try clear q13
                  try clear hx13
                  try clear c14
                  try clear c14b0
                  try clear c14b1
                  try clear p13
                  try clear p2
                  try clear p6
                  try clear q13
                  try clear q6
                  obtain ⟨kq, x36_10, rfl, HA, HJ10, BK281, HB⟩ := hcut
                  cases kq with
                  | zero => exact absurd HA.out (by simp [soffitref01_Parse.j3])
                  | succ kj10 =>
                    have H := HA.out
                    clear HA
                    simp only [soffitref01_Parse.j3] at H
                    by_cases c15 : x36_10 = true
                    · subst c15
                      have H1 : (soffitref01_Parse.l0 kj10 x0_6 x4_1 x6_3 (wrap64 (x6_3 + 1))) = some (r1, r2, r3) := by rw [if_pos rfl] at H; exact H
                      clear H
                      have H := H1
                      clear H1
                      have H' := Aside0.mk H
                      clear H
                      go_wp2
                      repeat (go_quiet (fail); try go_wp2)
                      go_roundg kj10
                      case measure => have := HJ1.out; have := HJ6.out; have := HK3.out; have := HJ10.out; omega
                      case rel => exact ⟨(x6_3), (wrap64 (x6_3 + 1)), (x282000_3), (x282001_3), (by first | rfl | (simp; done) | (simp [*]; done)), (by first | rfl | (simp; done) | (simp [*]; done)), H', ⟨by have := HJ1.out; have := HJ6.out; have := HK3.out; have := HJ10.out; omega⟩, ⟨by (with_reducible repeat (first | refine blk_drewN ?_ _ | refine blk_drew ?_ | refine blk_alloc ?_ _)); exact BK281.out⟩, ⟨by repeat (first | (with_reducible first | exact HB.out | apply below_alloc | apply pw_below_drewN | apply below_drew1 | refine below_set ?_ GE281.out) | exact HB.out)⟩⟩
                    · replace c15 := Bool.eq_false_iff.mpr c15
                      subst c15
                      have H1 : (if 0 ≤ x6_3 then (if x6_3 < (x0_6.size : Int) then (if (bt x0_6 x6_3) < 48 then (some (0, 0, 5)) else (if (bt x0_6 x6_3) > 57 then (some (0, 0, 5)) else (soffitref01_Parse.l0 kj10 x0_6 x4_1 x5_3 (wrap64 (x6_3 + 1))))) else (none)) else (none)) = some (r1, r2, r3) := by rw [if_neg (show ¬ (false = true) by decide)] at H; exact H
                      clear H
                      have H := H1
                      clear H1
                      by_cases c16 : 0 ≤ x6_3
                      · rw [if_pos c16] at H
                        have c16b0 : decide (0 ≤ x6_3) = true := decide_eq_true c16
                        clear c16
                        by_cases c17 : x6_3 < (x0_6.size : Int)
                        · rw [if_pos c17] at H
                          have c17b0 : decide (x6_3 < (x0_6.size : Int)) = true := decide_eq_true c17
                          clear c17
                          by_cases c19 : (bt x0_6 x6_3) < 48
                          · rw [if_pos c19] at H
                            have c19b0 : decide ((bt x0_6 x6_3) < 48) = true := decide_eq_true c19
                            clear c19
                            simp only [Option.some.injEq, Prod.mk.injEq] at H
                            obtain ⟨rfl, rfl, rfl⟩ := H
                            have p18 : 0 ≤ (x6_3 : Int) := of_decide_eq_true (by first | (with_reducible assumption) | assumption)
                            have q18 : x6_3 < (x0_6.size : Int) := of_decide_eq_true (by first | (with_reducible assumption) | assumption)
                            have hx18 := bt_at x0_6 x6_3
                            replace p18 := eq_true p18
                            replace q18 := eq_true q18
                            have hcz20_0 : wc.cell? ⟨gb281, 0, none⟩ = some (.int .i64 x282000_3) := (blk_cell BK281.out 0).trans rfl
                            have hcz20_1 : wc.cell? ⟨gb281, 1, none⟩ = some (.int .i64 x282001_3) := (blk_cell BK281.out 1).trans rfl
                            have hfz20_0 := blk_frozen BK281.out 0
                            have hfz20_1 := blk_frozen BK281.out 1
                            go_wp2
                            repeat (go_quiet (fail); try go_wp2)
                            refine bodyPost_ret (results_ct rfl _ _ gb281 23 #[.int .i64 0, .int .i64 0] (0, 0) _ rfl (by (with_reducible repeat (first | refine blk_drewN ?_ _ | refine blk_drew ?_ | refine blk_alloc ?_ _)); refine blk_put (cs := #[.int .i64 0, .int .i64 x282001_3]) ?_ 1 _ rfl; (with_reducible repeat (first | refine blk_drewN ?_ _ | refine blk_drew ?_ | refine blk_alloc ?_ _)); refine blk_put (cs := #[.int .i64 x282000_3, .int .i64 x282001_3]) ?_ 0 _ rfl; (with_reducible repeat (first | refine blk_drewN ?_ _ | refine blk_drew ?_ | refine blk_alloc ?_ _)); exact BK281.out) Tryd.underlying23 rfl (by kernel_rfl)) rfl ?_
                            exact ⟨by first | rfl | (simp [errW_none, errW_some] <;> rfl) | (simp [*, errW_none, errW_some] <;> rfl), by repeat (first | (with_reducible first | exact HB.out | apply below_alloc | apply pw_below_drewN | apply below_drew1 | refine below_set ?_ GE281.out) | exact HB.out)⟩
                          · rw [if_neg c19] at H
                            have c19b0 : decide ((bt x0_6 x6_3) < 48) = false := decide_eq_false c19
                            clear c19
                            by_cases c22 : (bt x0_6 x6_3) > 57
                            · rw [if_pos c22] at H
                              have c22b0 : decide (57 < (bt x0_6 x6_3)) = true := decide_eq_true c22
                              clear c22
                              simp only [Option.some.injEq, Prod.mk.injEq] at H
                              obtain ⟨rfl, rfl, rfl⟩ := H
                              have p18 : 0 ≤ (x6_3 : Int) := of_decide_eq_true (by first | (with_reducible assumption) | assumption)
                              have q18 : x6_3 < (x0_6.size : Int) := of_decide_eq_true (by first | (with_reducible assumption) | assumption)
                              have hx18 := bt_at x0_6 x6_3
                              replace p18 := eq_true p18
                              replace q18 := eq_true q18
                              have p21 : 0 ≤ (x6_3 : Int) := of_decide_eq_true (by first | (with_reducible assumption) | assumption)
                              have q21 : x6_3 < (x0_6.size : Int) := of_decide_eq_true (by first | (with_reducible assumption) | assumption)
                              have hx21 := bt_at x0_6 x6_3
                              replace p21 := eq_true p21
                              replace q21 := eq_true q21
                              have hcz23_0 : wc.cell? ⟨gb281, 0, none⟩ = some (.int .i64 x282000_3) := (blk_cell BK281.out 0).trans rfl
                              have hcz23_1 : wc.cell? ⟨gb281, 1, none⟩ = some (.int .i64 x282001_3) := (blk_cell BK281.out 1).trans rfl
                              have hfz23_0 := blk_frozen BK281.out 0
                              have hfz23_1 := blk_frozen BK281.out 1
                              go_wp2
                              repeat (go_quiet (fail); try go_wp2)
                              refine bodyPost_ret (results_ct rfl _ _ gb281 23 #[.int .i64 0, .int .i64 0] (0, 0) _ rfl (by (with_reducible repeat (first | refine blk_drewN ?_ _ | refine blk_drew ?_ | refine blk_alloc ?_ _)); refine blk_put (cs := #[.int .i64 0, .int .i64 x282001_3]) ?_ 1 _ rfl; (with_reducible repeat (first | refine blk_drewN ?_ _ | refine blk_drew ?_ | refine blk_alloc ?_ _)); refine blk_put (cs := #[.int .i64 x282000_3, .int .i64 x282001_3]) ?_ 0 _ rfl; (with_reducible repeat (first | refine blk_drewN ?_ _ | refine blk_drew ?_ | refine blk_alloc ?_ _)); exact BK281.out) Tryd.underlying23 rfl (by kernel_rfl)) rfl ?_
                              exact ⟨by first | rfl | (simp [errW_none, errW_some] <;> rfl) | (simp [*, errW_none, errW_some] <;> rfl), by repeat (first | (with_reducible first | exact HB.out | apply below_alloc | apply pw_below_drewN | apply below_drew1 | refine below_set ?_ GE281.out) | exact HB.out)⟩
                            · rw [if_neg c22] at H
                              have c22b0 : decide (57 < (bt x0_6 x6_3)) = false := decide_eq_false c22
                              clear c22
                              have H' := Aside0.mk H
                              clear H
                              have p18 : 0 ≤ (x6_3 : Int) := of_decide_eq_true (by first | (with_reducible assumption) | assumption)
                              have q18 : x6_3 < (x0_6.size : Int) := of_decide_eq_true (by first | (with_reducible assumption) | assumption)
                              have hx18 := bt_at x0_6 x6_3
                              replace p18 := eq_true p18
                              replace q18 := eq_true q18
                              have p21 : 0 ≤ (x6_3 : Int) := of_decide_eq_true (by first | (with_reducible assumption) | assumption)
                              have q21 : x6_3 < (x0_6.size : Int) := of_decide_eq_true (by first | (with_reducible assumption) | assumption)
                              have hx21 := bt_at x0_6 x6_3
                              replace p21 := eq_true p21
                              replace q21 := eq_true q21
                              go_wp2
                              repeat (go_quiet (fail); try go_wp2)
                              go_roundg kj10
                              case measure => have := HJ1.out; have := HJ6.out; have := HK3.out; have := HJ10.out; omega
                              case rel => exact ⟨(x5_3), (wrap64 (x6_3 + 1)), (x282000_3), (x282001_3), (by first | rfl | (simp; done) | (simp [*]; done)), (by first | rfl | (simp; done) | (simp [*]; done)), H', ⟨by have := HJ1.out; have := HJ6.out; have := HK3.out; have := HJ10.out; omega⟩, ⟨by (with_reducible repeat (first | refine blk_drewN ?_ _ | refine blk_drew ?_ | refine blk_alloc ?_ _)); exact BK281.out⟩, ⟨by repeat (first | (with_reducible first | exact HB.out | apply below_alloc | apply pw_below_drewN | apply below_drew1 | refine below_set ?_ GE281.out) | exact HB.out)⟩⟩
                        · rw [if_neg c17] at H
                          exact absurd H (by simp)
                      · rw [if_neg c16] at H
                        exact absurd H (by simp)
              · rw [if_neg c10] at H
                have c10b0 : decide (x6_3 < (x0_6.size : Int)) = false := decide_eq_false c10
                clear c10
                have HC24 := Aside0.mk H
                clear H
                go_upto_if 51 with (fail)
                repeat (go_quiet (fail); go_upto_if 51 with (fail))
                go_cut [7, 8] (fun v7 v8 wc => ∃ (kq : Nat) (x7_23 : ByteArray) (x8_23 : ByteArray) (x282000_23 : Int) (x282001_23 : Int), v7 = .string x7_23 ∧ v8 = .string x8_23 ∧ Aside0 (soffitref01_Parse.j4 kq x4_1 x7_23 x8_23 = some (r1, r2, r3)) ∧ Aside0 (kq ≤ k3) ∧ Aside0 (wc.heap[gb281]? = some (.cells #[.int .i64 x282000_23, .int .i64 x282001_23] 23 (0, 0))) ∧ Aside0 (Below w.heap.size w wc))
                case first =>
                  have H := HC24.out
                  clear HC24
                  by_cases c25 : x5_3 ≥ 0
                  · rw [if_pos c25] at H
                    have c25b0 : decide (0 ≤ x5_3) = true := decide_eq_true c25
                    clear c25
                    (first | rw [c25b0] | (simp only [i64_w, i32_w]; rw [c25b0]) | skip)
                    by_cases c26 : 0 ≤ x5_3
                    · rw [if_pos c26] at H
                      have c26b0 := eq_true c26
                      have c26b1 : decide (0 ≤ x5_3) = true := decide_eq_true c26
                      clear c26
                      by_cases c27 : x5_3 ≤ (x0_6.size : Int)
                      · rw [if_pos c27] at H
                        have c27b0 := eq_true c27
                        have c27b1 : decide (x5_3 ≤ (x0_6.size : Int)) = true := decide_eq_true c27
                        clear c27
                        obtain ⟨ji28, hji28⟩ : ∃ j_ : Int, (wrap64 (x5_3 + 1)) = j_ := ⟨_, rfl⟩
                        replace H : (if 0 ≤ (ji28) then (if (ji28) ≤ (x0_6.size : Int) then (if (x0_6.extract ((ji28) : Int).toNat x0_6.size).toList = ([] : List UInt8) then (some (0, 0, 5)) else (soffitref01_Parse.j4 k3 x4_1 (x0_6.extract 0 (x5_3 : Int).toNat) (x0_6.extract ((ji28) : Int).toNat x0_6.size))) else (none)) else (none)) = some (r1, r2, r3) := by first | (rw [hji28] at H; exact H) | (simp only [hji28] at H ⊢; exact H)
                        have hji28w : (IntKind.i64.wrap (x5_3 + 1)) = ji28 := (i64_w _).trans hji28
                        by_cases c29 : 0 ≤ (ji28)
                        · rw [if_pos c29] at H
                          have c29b0 := eq_true c29
                          have c29b1 : decide (0 ≤ (ji28)) = true := decide_eq_true c29
                          clear c29
                          by_cases c30 : (ji28) ≤ (x0_6.size : Int)
                          · rw [if_pos c30] at H
                            have c30b0 := eq_true c30
                            have c30b1 : decide ((ji28) ≤ (x0_6.size : Int)) = true := decide_eq_true c30
                            clear c30
                            by_cases c31 : (x0_6.extract ((ji28) : Int).toNat x0_6.size).toList = ([] : List UInt8)
                            · rw [if_pos c31] at H
                              have c31b0 : ((x0_6.extract ((ji28) : Int).toNat x0_6.size).toList == ([] : List UInt8)) = true := beq_iff_eq.mpr c31
                              have c31b1 : ((x0_6.extract ((ji28) : Int).toNat x0_6.size).toList != ([] : List UInt8)) = false := bne_eq_false_iff_eq.mpr c31
                              clear c31
                              simp only [Option.some.injEq, Prod.mk.injEq] at H
                              obtain ⟨rfl, rfl, rfl⟩ := H
                              have hcz32_0 : wr.cell? ⟨gb281, 0, none⟩ = some (.int .i64 x282000_3) := (blk_cell BK281.out 0).trans rfl
                              have hcz32_1 : wr.cell? ⟨gb281, 1, none⟩ = some (.int .i64 x282001_3) := (blk_cell BK281.out 1).trans rfl
                              have hfz32_0 := blk_frozen BK281.out 0
                              have hfz32_1 := blk_frozen BK281.out 1
                              go_wp2
                              repeat (go_quiet (fail); try go_wp2)
                              refine bodyPost_ret (results_ct rfl _ _ gb281 23 #[.int .i64 0, .int .i64 0] (0, 0) _ rfl (by (with_reducible repeat (first | refine blk_drewN ?_ _ | refine blk_drew ?_ | refine blk_alloc ?_ _)); refine blk_put (cs := #[.int .i64 0, .int .i64 x282001_3]) ?_ 1 _ rfl; (with_reducible repeat (first | refine blk_drewN ?_ _ | refine blk_drew ?_ | refine blk_alloc ?_ _)); refine blk_put (cs := #[.int .i64 x282000_3, .int .i64 x282001_3]) ?_ 0 _ rfl; (with_reducible repeat (first | refine blk_drewN ?_ _ | refine blk_drew ?_ | refine blk_alloc ?_ _)); exact BK281.out) Tryd.underlying23 rfl (by kernel_rfl)) rfl ?_
                              exact ⟨by first | rfl | (simp [errW_none, errW_some] <;> rfl) | (simp only [← hji28]; first | rfl | (simp [errW_none, errW_some] <;> rfl)) | (simp [*, errW_none, errW_some] <;> rfl), by repeat (first | (with_reducible first | exact HB.out | apply below_alloc | apply pw_below_drewN | apply below_drew1 | refine below_set ?_ GE281.out) | exact HB.out)⟩
                            · rw [if_neg c31] at H
                              have c31b0 : ((x0_6.extract ((ji28) : Int).toNat x0_6.size).toList == ([] : List UInt8)) = false := beq_eq_false_iff_ne.mpr c31
                              have c31b1 : ((x0_6.extract ((ji28) : Int).toNat x0_6.size).toList != ([] : List UInt8)) = true := bne_iff_ne.mpr c31
                              have H' := Aside0.mk H
                              clear H
                              go_wp2
                              repeat (go_quiet (fail); try go_wp2)
                              go_meet
                              case rel => exact ⟨_, (x0_6.extract 0 (x5_3 : Int).toNat), (x0_6.extract ((ji28) : Int).toNat x0_6.size), (x282000_3), (x282001_3), (by first | rfl | (simp; done) | (simp [*]; done)), (by first | rfl | (simp; done) | (simp only [← hji28] <;> (first | rfl | simp)) | (simp [*]; done)), H', ⟨by have := HJ1.out; have := HJ6.out; have := HK3.out; first | omega | exact Nat.le_refl _⟩, ⟨by (with_reducible repeat (first | refine blk_drewN ?_ _ | refine blk_drew ?_ | refine blk_alloc ?_ _)); exact BK281.out⟩, ⟨by repeat (first | (with_reducible first | exact HB.out | apply below_alloc | apply pw_below_drewN | apply below_drew1 | refine below_set ?_ GE281.out) | exact HB.out)⟩⟩
                          · rw [if_neg c30] at H
                            exact absurd H (by simp)
                        · rw [if_neg c29] at H
                          exact absurd H (by simp)
                      · rw [if_neg c27] at H
                        exact absurd H (by simp)
                    · rw [if_neg c26] at H
                      exact absurd H (by simp)
                  · rw [if_neg c25] at H
                    have c25b0 : decide (0 ≤ x5_3) = false := decide_eq_false c25
                    clear c25
                    (first | rw [c25b0] | (simp only [i64_w, i32_w]; rw [c25b0]) | skip)
                    have H' := Aside0.mk H
                    clear H
                    go_wp2
                    repeat (go_quiet (fail); try go_wp2)
                    go_meet
                    case rel => exact ⟨_, (x0_6), ((⟨#[]⟩ : ByteArray)), (x282000_3), (x282001_3), (by first | rfl | (simp; done) | (simp [*]; done)), (by first | rfl | (simp; done) | (simp [*]; done)), H', ⟨by have := HJ1.out; have := HJ6.out; have := HK3.out; first | omega | exact Nat.le_refl _⟩, ⟨by (with_reducible repeat (first | refine blk_drewN ?_ _ | refine blk_drew ?_ | refine blk_alloc ?_ _)); exact BK281.out⟩, ⟨by repeat (first | (with_reducible first | exact HB.out | apply below_alloc | apply pw_below_drewN | apply below_drew1 | refine below_set ?_ GE281.out) | exact HB.out)⟩⟩
                case rest =>
                  clear HC24
                  try clear c1
                  try clear p1
                  try clear q1
                  try clear hx1
                  try clear c2
                  try clear p2
                  try clear q2
                  try clear hx2
                  try clear c3
                  try clear c4
                  try clear c4b0
                  try clear c4b1
                  try clear c5
                  try clear c5b0
                  try clear c5b1
                  try clear p6
                  try clear q6
                  try clear hx6
                  try clear qi6
                  try clear c8
                  try clear c9
                  try clear c9b0
                  try clear c9b1
                  try clear c10
                  try clear c10b0
                  try clear c12
                  try clear c12b0
                  try clear p13
                  try clear q13
                  try clear hx13
                  try clear c14
                  try clear c14b0
                  try clear c14b1
                  try clear c15
                  try clear c16
                  try clear c16b0
                  try clear c17
                  try clear c17b0
                  try clear p18
                  try clear q18
                  try clear hx18
                  try clear c19
                  try clear c19b0
                  try clear p21
                  try clear q21
                  try clear hx21
                  try clear c22
                  try clear c22b0
                  try clear c25
                  try clear c25b0
                  try clear c26
                  try clear c26b0
                  try clear c26b1
                  try clear c27
                  try clear c27b0
                  try clear c27b1
                  try clear c29
                  try clear c29b0
                  try clear c29b1
                  try clear c30
                  try clear c30b0
                  try clear c30b1
                  try clear c31
                  try clear c31b0
                  try clear c31b1
                  try clear hcz20_0
                  try clear hcz20_1
                  try clear hcz23_0
                  try clear hcz23_1
                  try clear hcz32_0
                  try clear hcz32_1
                  try clear hfz20_0
                  try clear hfz20_1
                  try clear hfz23_0
                  try clear hfz23_1
                  try clear hfz32_0
                  try clear hfz32_1
                  try clear p1
                  try clear p13
                  try clear p18
                  try clear p2
                  try clear p21
                  try clear p6
                  try clear q1
                  try clear q13
                  try clear q18
                  try clear q21
                  try clear q6
                  obtain ⟨kq, x7_23, x8_23, x282000_23, x282001_23, rfl, rfl, HA, HJ23, BK281, HB⟩ := hcut
                  cases kq with
                  | zero => exact absurd HA.out (by simp [soffitref01_Parse.j4])
                  | succ kj23 =>
                    have H := HA.out
                    clear HA
                    simp only [soffitref01_Parse.j4] at H
                    have HC33 := Aside0.mk H
                    clear H
                    go_upto_region 17 with (fail)
                    repeat (go_quiet (fail); go_upto_region 17 with (fail))
                    go_cut [73] (fun v73 wc => ∃ (kq : Nat) (x73_32 : Bool), v73 = .bool x73_32 ∧ Aside0 (soffitref01_Parse.j5 kq x4_1 x7_23 x8_23 x73_32 = some (r1, r2, r3)) ∧ Aside0 (kq ≤ kj23) ∧ Aside0 (wc.heap[gb281]? = some (.cells #[.int .i64 x282000_23, .int .i64 x282001_23] 23 (0, 0))) ∧ Aside0 (Below w.heap.size w wc))
                    case first =>
                      have H := HC33.out
                      clear HC33
                      by_cases c34 : x7_23.toList = ([] : List UInt8)
                      · rw [if_pos c34] at H
                        have c34b0 : (x7_23.toList == ([] : List UInt8)) = true := beq_iff_eq.mpr c34
                        have c34b1 : (x7_23.toList != ([] : List UInt8)) = false := bne_eq_false_iff_eq.mpr c34
                        clear c34
                        (first | rw [c34b0] | (simp only [i64_w, i32_w]; rw [c34b0]) | skip)
                        have H' := Aside0.mk H
                        clear H
                        go_wp2
                        repeat (go_quiet (fail); try go_wp2)
                        go_meet
                        case rel => exact ⟨_, (true), (by first | rfl | (simp; done) | (simp [*]; done)), H', ⟨by have := HJ1.out; have := HJ6.out; have := HK3.out; have := HJ23.out; first | omega | exact Nat.le_refl _⟩, ⟨by (with_reducible repeat (first | refine blk_drewN ?_ _ | refine blk_drew ?_ | refine blk_alloc ?_ _)); exact BK281.out⟩, ⟨by repeat (first | (with_reducible first | exact HB.out | apply below_alloc | apply pw_below_drewN | apply below_drew1 | refine below_set ?_ GE281.out) | exact HB.out)⟩⟩
                      · rw [if_neg c34] at H
                        have c34b0 : (x7_23.toList == ([] : List UInt8)) = false := beq_eq_false_iff_ne.mpr c34
                        have c34b1 : (x7_23.toList != ([] : List UInt8)) = true := bne_iff_ne.mpr c34
                        (first | rw [c34b0] | (simp only [i64_w, i32_w]; rw [c34b0]) | skip)
                        by_cases c35 : (x7_23.size : Int) > 1
                        · rw [if_pos c35] at H
                          have c35b0 : decide (1 < (x7_23.size : Int)) = true := decide_eq_true c35
                          have c35b1 : decide (1 < x7_23.size) = true := decide_eq_true (by omega)
                          clear c35
                          by_cases c36 : 0 < (x7_23.size : Int)
                          · rw [if_pos c36] at H
                            have c36b0 : decide (0 < (x7_23.size : Int)) = true := decide_eq_true c36
                            have c36b1 : decide (0 < x7_23.size) = true := decide_eq_true (by omega)
                            clear c36
                            have H' := Aside0.mk H
                            clear H
                            have p37 : 0 ≤ (0 : Int) := (by omega)
                            have q37 : 0 < x7_23.size := (by have : (0 : Int) < (x7_23.size : Int) := of_decide_eq_true (by first | (with_reducible assumption) | assumption); omega)
                            have hx37 : ∀ h : 0 < x7_23.size, ((x7_23[0]'h).toNat : Int) = bt x7_23 0 := bt_at x7_23 0
                            clear p37
                            have qi37 : (0 < (x7_23.size : Int)) = True := eq_true (of_decide_eq_true (by first | (with_reducible assumption) | assumption))
                            replace q37 := eq_true q37
                            go_wp2
                            repeat (go_quiet (fail); try go_wp2)
                            go_meet
                            case rel => exact ⟨_, (((bt x7_23 0) == 48)), (by first | rfl | (simp; done) | (simp [*]; done)), H', ⟨by have := HJ1.out; have := HJ6.out; have := HK3.out; have := HJ23.out; first | omega | exact Nat.le_refl _⟩, ⟨by (with_reducible repeat (first | refine blk_drewN ?_ _ | refine blk_drew ?_ | refine blk_alloc ?_ _)); exact BK281.out⟩, ⟨by repeat (first | (with_reducible first | exact HB.out | apply below_alloc | apply pw_below_drewN | apply below_drew1 | refine below_set ?_ GE281.out) | exact HB.out)⟩⟩
                          · rw [if_neg c36] at H
                            exact absurd H (by simp)
                        · rw [if_neg c35] at H
                          have c35b0 : decide (1 < (x7_23.size : Int)) = false := decide_eq_false c35
                          have c35b1 : decide (1 < x7_23.size) = false := decide_eq_false (by omega)
                          clear c35
                          have H' := Aside0.mk H
                          clear H
                          go_wp2
                          repeat (go_quiet (fail); try go_wp2)
                          go_meet
                          case rel => exact ⟨_, (false), (by first | rfl | (simp; done) | (simp [*]; done)), H', ⟨by have := HJ1.out; have := HJ6.out; have := HK3.out; have := HJ23.out; first | omega | exact Nat.le_refl _⟩, ⟨by (with_reducible repeat (first | refine blk_drewN ?_ _ | refine blk_drew ?_ | refine blk_alloc ?_ _)); exact BK281.out⟩, ⟨by repeat (first | (with_reducible first | exact HB.out | apply below_alloc | apply pw_below_drewN | apply below_drew1 | refine below_set ?_ GE281.out) | exact HB.out)⟩⟩
                    case rest =>
                      clear HC33
                      try clear c1
                      try clear p1
                      try clear q1
                      try clear hx1
                      try clear c2
                      try clear p2
                      try clear q2
                      try clear hx2
                      try clear c3
                      try clear p3
                      try clear q3
                      try clear hx3
                      try clear qi3
                      try clear c4
                      try clear c4b0
                      try clear c4b1
                      try clear c5
                      try clear c5b0
                      try clear c5b1
                      try clear p6
                      try clear q6
                      try clear hx6
                      try clear qi6
                      try clear c8
                      try clear c9
                      try clear c9b0
                      try clear c9b1
                      try clear c10
                      try clear c10b0
                      try clear c12
                      try clear c12b0
                      try clear p13
                      try clear q13
                      try clear hx13
                      try clear c14
                      try clear c14b0
                      try clear c14b1
                      try clear c15
                      try clear c16
                      try clear c16b0
                      try clear c17
                      try clear c17b0
                      try clear p18
                      try clear q18
                      try clear hx18
                      try clear c19
                      try clear c19b0
                      try clear p21
                      try clear q21
                      try clear hx21
                      try clear c22
                      try clear c22b0
                      try clear c25
                      try clear c25b0
                      try clear c26
                      try clear c26b0
                      try clear c26b1
                      try clear c27
                      try clear c27b0
                      try clear c27b1
                      try clear c29
                      try clear c29b0
                      try clear c29b1
                      try clear c30
                      try clear c30b0
                      try clear c30b1
                      try clear c31
                      try clear c31b0
                      try clear c31b1
                      try clear c34
                      try clear c34b0
                      try clear c34b1
                      try clear c35
                      try clear c35b0
                      try clear c35b1
                      try clear c36
                      try clear c36b0
                      try clear c36b1
                      try clear p37
                      try clear q37
                      try clear hx37
                      try clear qi37
                      try clear hcz20_0
                      try clear hcz20_1
                      try clear hcz23_0
                      try clear hcz23_1
                      try clear hcz32_0
                      try clear hcz32_1
                      try clear hfz20_0
                      try clear hfz20_1
                      try clear hfz23_0
                      try clear hfz23_1
                      try clear hfz32_0
                      try clear hfz32_1
                      try clear p1
                      try clear p13
                      try clear p18
                      try clear p2
                      try clear p21
                      try clear p37
                      try clear p6
                      try clear q1
                      try clear q13
                      try clear q18
                      try clear q2
                      try clear q21
                      try clear q37
                      try clear q6
                      obtain ⟨kq, x73_32, rfl, HA, HJ32, BK281, HB⟩ := hcut
                      cases kq with
                      | zero => exact absurd HA.out (by simp [soffitref01_Parse.j5])
                      | succ kj32 =>
                        have H := HA.out
                        clear HA
                        simp only [soffitref01_Parse.j5] at H
                        by_cases c38 : x73_32 = true
                        · subst c38
                          have H1 : (some (0, 0, 5)) = some (r1, r2, r3) := by rw [if_pos rfl] at H; exact H
                          clear H
                          have H := H1
                          clear H1
                          simp only [Option.some.injEq, Prod.mk.injEq] at H
                          obtain ⟨rfl, rfl, rfl⟩ := H
                          have hcz39_0 : wc.cell? ⟨gb281, 0, none⟩ = some (.int .i64 x282000_23) := (blk_cell BK281.out 0).trans rfl
                          have hcz39_1 : wc.cell? ⟨gb281, 1, none⟩ = some (.int .i64 x282001_23) := (blk_cell BK281.out 1).trans rfl
                          have hfz39_0 := blk_frozen BK281.out 0
                          have hfz39_1 := blk_frozen BK281.out 1
                          go_wp2
                          repeat (go_quiet (fail); try go_wp2)
                          refine bodyPost_ret (results_ct rfl _ _ gb281 23 #[.int .i64 0, .int .i64 0] (0, 0) _ rfl (by (with_reducible repeat (first | refine blk_drewN ?_ _ | refine blk_drew ?_ | refine blk_alloc ?_ _)); refine blk_put (cs := #[.int .i64 0, .int .i64 x282001_23]) ?_ 1 _ rfl; (with_reducible repeat (first | refine blk_drewN ?_ _ | refine blk_drew ?_ | refine blk_alloc ?_ _)); refine blk_put (cs := #[.int .i64 x282000_23, .int .i64 x282001_23]) ?_ 0 _ rfl; (with_reducible repeat (first | refine blk_drewN ?_ _ | refine blk_drew ?_ | refine blk_alloc ?_ _)); exact BK281.out) Tryd.underlying23 rfl (by kernel_rfl)) rfl ?_
                          exact ⟨by first | rfl | (simp [errW_none, errW_some] <;> rfl) | (simp [*, errW_none, errW_some] <;> rfl), by repeat (first | (with_reducible first | exact HB.out | apply below_alloc | apply pw_below_drewN | apply below_drew1 | refine below_set ?_ GE281.out) | exact HB.out)⟩
                        · replace c38 := Bool.eq_false_iff.mpr c38
                          subst c38
                          have H1 : (soffitref01_Parse.l1 kj32 x4_1 x7_23 x8_23) = some (r1, r2, r3) := by rw [if_neg (show ¬ (false = true) by decide)] at H; exact H
                          clear H
                          have H := H1
                          clear H1
                          have HC40 := Aside0.mk H
                          clear H
                          go_upto_block 2 with (fail)
                          repeat (go_quiet (fail); go_upto_block 2 with (fail))
                          go_cut [8] (fun v8 wc => ∃ (kq : Nat) (x8_39 : ByteArray), v8 = .string x8_39 ∧ Aside0 (soffitref01_Parse.j7 kq x4_1 x7_23 x8_39 = some (r1, r2, r3)) ∧ Aside0 (kq ≤ kj32) ∧ Aside0 (wc.heap[gb281]? = some (.cells #[.int .i64 x282000_23, .int .i64 x282001_23] 23 (0, 0))) ∧ Aside0 (Below w.heap.size w wc))
                          case first =>
                            have H := HC40.out
                            clear HC40
                            have H' := Aside0.mk H
                            clear H
                            go_wp2
                            repeat (go_quiet (fail); try go_wp2)
                            (try simp only [Act.put, List.setIfInBounds_toArray, List.set_cons_succ, List.set_cons_zero])
                            go_loopg [8] kj32 (fun kq v8 w' => ∃ (x8_6 : ByteArray), v8 = .string x8_6 ∧ Aside0 (soffitref01_Parse.l1 kq x4_1 x7_23 x8_6 = some (r1, r2, r3)) ∧ Aside0 (kq ≤ kj32) ∧ Aside0 (w'.heap[gb281]? = some (.cells #[.int .i64 x282000_23, .int .i64 x282001_23] 23 (0, 0))) ∧ Aside0 (Below w.heap.size w w'))
                            case atStart => exact ⟨(x8_23), (by first | rfl | (simp; done) | (simp [*]; done)), H', ⟨Nat.le_refl _⟩, ⟨by (with_reducible repeat (first | refine blk_drewN ?_ _ | refine blk_drew ?_ | refine blk_alloc ?_ _)); exact BK281.out⟩, ⟨by repeat (first | (with_reducible first | exact HB.out | apply below_alloc | apply pw_below_drewN | apply below_drew1 | refine below_set ?_ GE281.out) | exact HB.out)⟩⟩
                            case round =>
                              clear H'
                              try clear c1
                              try clear p1
                              try clear q1
                              try clear hx1
                              try clear c2
                              try clear p2
                              try clear q2
                              try clear hx2
                              try clear c3
                              try clear p3
                              try clear q3
                              try clear hx3
                              try clear qi3
                              try clear c4
                              try clear c4b0
                              try clear c4b1
                              try clear c5
                              try clear c5b0
                              try clear c5b1
                              try clear p6
                              try clear q6
                              try clear hx6
                              try clear qi6
                              try clear c8
                              try clear c9
                              try clear c9b0
                              try clear c9b1
                              try clear c10
                              try clear c10b0
                              try clear c12
                              try clear c12b0
                              try clear p13
                              try clear q13
                              try clear hx13
                              try clear c14
                              try clear c14b0
                              try clear c14b1
                              try clear c15
                              try clear c16
                              try clear c16b0
                              try clear c17
                              try clear c17b0
                              try clear p18
                              try clear q18
                              try clear hx18
                              try clear c19
                              try clear c19b0
                              try clear p21
                              try clear q21
                              try clear hx21
                              try clear c22
                              try clear c22b0
                              try clear c25
                              try clear c25b0
                              try clear c26
                              try clear c26b0
                              try clear c26b1
                              try clear c27
                              try clear c27b0
                              try clear c27b1
                              try clear c29
                              try clear c29b0
                              try clear c29b1
                              try clear c30
                              try clear c30b0
                              try clear c30b1
                              try clear c31
                              try clear c31b0
                              try clear c31b1
                              try clear c34
                              try clear c34b0
                              try clear c34b1
                              try clear c35
                              try clear c35b0
                              try clear c35b1
                              try clear c36
                              try clear c36b0
                              try clear c36b1
                              try clear p37
                              try clear q37
                              try clear hx37
                              try clear qi37
                              try clear c38
                              try clear hcz20_0
                              try clear hcz20_1
                              try clear hcz23_0
                              try clear hcz23_1
                              try clear hcz32_0
                              try clear hcz32_1
                              try clear hcz39_0
                              try clear hcz39_1
                              try clear hfz20_0
                              try clear hfz20_1
                              try clear hfz23_0
                              try clear hfz23_1
                              try clear hfz32_0
                              try clear hfz32_1
                              try clear hfz39_0
                              try clear hfz39_1
                              try clear p1
                              try clear p13
                              try clear p18
                              try clear p2
                              try clear p21
                              try clear p3
                              try clear p37
                              try clear p6
                              try clear q1
                              try clear q13
                              try clear q18
                              try clear q2
                              try clear q21
                              try clear q3
                              try clear q37
                              try clear q6
                              obtain ⟨x8_6, rfl, HA, HK6, BK281, HB⟩ := hrel
                              cases gk with
                              | zero => exact absurd HA.out (by simp [soffitref01_Parse.l1])
                              | succ k6 =>
                                have H := HA.out
                                clear HA
                                simp only [soffitref01_Parse.l1] at H
                                by_cases c41 : (x8_6.size : Int) > 0
                                · rw [if_pos c41] at H
                                  have c41b0 : decide (0 < (x8_6.size : Int)) = true := decide_eq_true c41
                                  have c41b1 : decide (0 < x8_6.size) = true := decide_eq_true (by omega)
                                  clear c41
                                  (first | rw [c41b0] | (simp only [i64_w, i32_w]; rw [c41b0]) | skip)
                                  obtain ⟨ji42, hji42⟩ : ∃ j_ : Int, (wrap64 ((x8_6.size : Int) - 1)) = j_ := ⟨_, rfl⟩
                                  replace H : (if 0 ≤ (ji42) then (if (ji42) < (x8_6.size : Int) then (if (bt x8_6 (ji42)) = 48 then (if (ji42) ≤ (x8_6.size : Int) then (soffitref01_Parse.l1 k6 x4_1 x7_23 (x8_6.extract 0 ((ji42) : Int).toNat)) else (none)) else (soffitref01_Parse.j7 k6 x4_1 x7_23 x8_6)) else (none)) else (none)) = some (r1, r2, r3) := by first | (rw [hji42] at H; exact H) | (simp only [hji42] at H ⊢; exact H)
                                  have hji42w : (IntKind.i64.wrap ((x8_6.size : Int) - 1)) = ji42 := (i64_w _).trans hji42
                                  by_cases c43 : 0 ≤ (ji42)
                                  · rw [if_pos c43] at H
                                    have c43b0 : decide (0 ≤ (ji42)) = true := decide_eq_true c43
                                    clear c43
                                    by_cases c44 : (ji42) < (x8_6.size : Int)
                                    · rw [if_pos c44] at H
                                      have c44b0 : decide ((ji42) < (x8_6.size : Int)) = true := decide_eq_true c44
                                      clear c44
                                      by_cases c46 : (bt x8_6 (ji42)) = 48
                                      · rw [if_pos c46] at H
                                        have c46b0 : ((bt x8_6 (ji42)) == 48) = true := beq_iff_eq.mpr c46
                                        have c46b1 : ((bt x8_6 (ji42)) != 48) = false := bne_eq_false_iff_eq.mpr c46
                                        clear c46
                                        have c47b0 := eq_true (of_decide_eq_true (by first | (with_reducible assumption) | assumption) : 0 ≤ (ji42))
                                        by_cases c48 : (ji42) ≤ (x8_6.size : Int)
                                        · rw [if_pos c48] at H
                                          have c48b0 := eq_true c48
                                          have c48b1 : decide ((ji42) ≤ (x8_6.size : Int)) = true := decide_eq_true c48
                                          clear c48
                                          have H' := Aside0.mk H
                                          clear H
                                          have p45 : 0 ≤ ((ji42) : Int) := of_decide_eq_true (by first | (with_reducible assumption) | assumption)
                                          have q45 : (ji42) < (x8_6.size : Int) := of_decide_eq_true (by first | (with_reducible assumption) | assumption)
                                          have hx45 := bt_at x8_6 (ji42)
                                          replace p45 := eq_true p45
                                          replace q45 := eq_true q45
                                          go_wp2
                                          repeat (go_quiet (fail); try go_wp2)
                                          go_roundg k6
                                          case measure => have := HJ1.out; have := HJ6.out; have := HK3.out; have := HJ23.out; have := HJ32.out; have := HK6.out; omega
                                          case rel => exact ⟨(x8_6.extract 0 ((ji42) : Int).toNat), (by first | rfl | (simp; done) | (simp only [← hji42] <;> (first | rfl | simp)) | (simp [*]; done)), H', ⟨by have := HJ1.out; have := HJ6.out; have := HK3.out; have := HJ23.out; have := HJ32.out; have := HK6.out; omega⟩, ⟨by (with_reducible repeat (first | refine blk_drewN ?_ _ | refine blk_drew ?_ | refine blk_alloc ?_ _)); exact BK281.out⟩, ⟨by repeat (first | (with_reducible first | exact HB.out | apply below_alloc | apply pw_below_drewN | apply below_drew1 | refine below_set ?_ GE281.out) | exact HB.out)⟩⟩
                                        · rw [if_neg c48] at H
                                          exact absurd H (by simp)
                                      · rw [if_neg c46] at H
                                        have c46b0 : ((bt x8_6 (ji42)) == 48) = false := beq_eq_false_iff_ne.mpr c46
                                        have c46b1 : ((bt x8_6 (ji42)) != 48) = true := bne_iff_ne.mpr c46
                                        have H' := Aside0.mk H
                                        clear H
                                        have p45 : 0 ≤ ((ji42) : Int) := of_decide_eq_true (by first | (with_reducible assumption) | assumption)
                                        have q45 : (ji42) < (x8_6.size : Int) := of_decide_eq_true (by first | (with_reducible assumption) | assumption)
                                        have hx45 := bt_at x8_6 (ji42)
                                        replace p45 := eq_true p45
                                        replace q45 := eq_true q45
                                        go_wp2
                                        repeat (go_quiet (fail); try go_wp2)
                                        go_meet
                                        case rel => exact ⟨_, (x8_6), (by first | rfl | (simp; done) | (simp [*]; done)), H', ⟨by have := HJ1.out; have := HJ6.out; have := HK3.out; have := HJ23.out; have := HJ32.out; have := HK6.out; first | omega | exact Nat.le_refl _⟩, ⟨by (with_reducible repeat (first | refine blk_drewN ?_ _ | refine blk_drew ?_ | refine blk_alloc ?_ _)); exact BK281.out⟩, ⟨by repeat (first | (with_reducible first | exact HB.out | apply below_alloc | apply pw_below_drewN | apply below_drew1 | refine below_set ?_ GE281.out) | exact HB.out)⟩⟩
                                    · rw [if_neg c44] at H
                                      exact absurd H (by simp)
                                  · rw [if_neg c43] at H
                                    exact absurd H (by simp)
                                · rw [if_neg c41] at H
                                  have c41b0 : decide (0 < (x8_6.size : Int)) = false := decide_eq_false c41
                                  have c41b1 : decide (0 < x8_6.size) = false := decide_eq_false (by omega)
                                  clear c41
                                  (first | rw [c41b0] | (simp only [i64_w, i32_w]; rw [c41b0]) | skip)
                                  have H' := Aside0.mk H
                                  clear H
                                  go_wp2
                                  repeat (go_quiet (fail); try go_wp2)
                                  go_meet
                                  case rel => exact ⟨_, (x8_6), (by first | rfl | (simp; done) | (simp [*]; done)), H', ⟨by have := HJ1.out; have := HJ6.out; have := HK3.out; have := HJ23.out; have := HJ32.out; have := HK6.out; first | omega | exact Nat.le_refl _⟩, ⟨by (with_reducible repeat (first | refine blk_drewN ?_ _ | refine blk_drew ?_ | refine blk_alloc ?_ _)); exact BK281.out⟩, ⟨by repeat (first | (with_reducible first | exact HB.out | apply below_alloc | apply pw_below_drewN | apply below_drew1 | refine below_set ?_ GE281.out) | exact HB.out)⟩⟩
                          case rest =>
                            clear HC40
                            try clear c1
                            try clear p1
                            try clear q1
                            try clear hx1
                            try clear c2
                            try clear p2
                            try clear q2
                            try clear hx2
                            try clear c3
                            try clear p3
                            try clear q3
                            try clear hx3
                            try clear qi3
                            try clear c4
                            try clear c4b0
                            try clear c4b1
                            try clear p4
                            try clear q4
                            try clear hx4
                            try clear c5
                            try clear c5b0
                            try clear c5b1
                            try clear p6
                            try clear q6
                            try clear hx6
                            try clear qi6
                            try clear c8
                            try clear c9
                            try clear c9b0
                            try clear c9b1
                            try clear c10
                            try clear c10b0
                            try clear c12
                            try clear c12b0
                            try clear p13
                            try clear q13
                            try clear hx13
                            try clear c14
                            try clear c14b0
                            try clear c14b1
                            try clear c15
                            try clear c16
                            try clear c16b0
                            try clear c17
                            try clear c17b0
                            try clear p18
                            try clear q18
                            try clear hx18
                            try clear c19
                            try clear c19b0
                            try clear p21
                            try clear q21
                            try clear hx21
                            try clear c22
                            try clear c22b0
                            try clear c25
                            try clear c25b0
                            try clear c26
                            try clear c26b0
                            try clear c26b1
                            try clear c27
                            try clear c27b0
                            try clear c27b1
                            try clear c29
                            try clear c29b0
                            try clear c29b1
                            try clear c30
                            try clear c30b0
                            try clear c30b1
                            try clear c31
                            try clear c31b0
                            try clear c31b1
                            try clear c34
                            try clear c34b0
                            try clear c34b1
                            try clear c35
                            try clear c35b0
                            try clear c35b1
                            try clear c36
                            try clear c36b0
                            try clear c36b1
                            try clear p37
                            try clear q37
                            try clear hx37
                            try clear qi37
                            try clear c38
                            try clear c41
                            try clear c41b0
                            try clear c41b1
                            try clear c43
                            try clear c43b0
                            try clear c44
                            try clear c44b0
                            try clear p45
                            try clear q45
                            try clear hx45
                            try clear c46
                            try clear c46b0
                            try clear c46b1
                            try clear c47
                            try clear c47b0
                            try clear c48
                            try clear c48b0
                            try clear c48b1
                            try clear hcz20_0
                            try clear hcz20_1
                            try clear hcz23_0
                            try clear hcz23_1
                            try clear hcz32_0
                            try clear hcz32_1
                            try clear hcz39_0
                            try clear hcz39_1
                            try clear hfz20_0
                            try clear hfz20_1
                            try clear hfz23_0
                            try clear hfz23_1
                            try clear hfz32_0
                            try clear hfz32_1
                            try clear hfz39_0
                            try clear hfz39_1
                            try clear p1
                            try clear p13
                            try clear p18
                            try clear p2
                            try clear p21
                            try clear p3
                            try clear p37
                            try clear p45
                            try clear p6
                            try clear q1
                            try clear q13
                            try clear q18
                            try clear q2
                            try clear q21
                            try clear q3
                            try clear q37
                            try clear q45
                            try clear q6
                            obtain ⟨kq, x8_39, rfl, HA, HJ39, BK281, HB⟩ := hcut
                            cases kq with
                            | zero => exact absurd HA.out (by simp [soffitref01_Parse.j7])
                            | succ kj39 =>
                              have H := HA.out
                              clear HA
                              simp only [soffitref01_Parse.j7] at H
                              have HC49 := Aside0.mk H
                              clear H
                              go_upto_region 21 with (fail)
                              repeat (go_quiet (fail); go_upto_region 21 with (fail))
                              go_cut [98] (fun v98 wc => ∃ (kq : Nat) (x98_48 : Bool), v98 = .bool x98_48 ∧ Aside0 (soffitref01_Parse.j8 kq x4_1 x7_23 x8_39 x98_48 = some (r1, r2, r3)) ∧ Aside0 (kq ≤ kj39) ∧ Aside0 (wc.heap[gb281]? = some (.cells #[.int .i64 x282000_23, .int .i64 x282001_23] 23 (0, 0))) ∧ Aside0 (Below w.heap.size w wc))
                              case first =>
                                have H := HC49.out
                                clear HC49
                                by_cases c50 : (x8_39.size : Int) > 6
                                · rw [if_pos c50] at H
                                  have c50b0 : decide (6 < (x8_39.size : Int)) = true := decide_eq_true c50
                                  have c50b1 : decide (6 < x8_39.size) = true := decide_eq_true (by omega)
                                  clear c50
                                  (first | rw [c50b0] | (simp only [i64_w, i32_w]; rw [c50b0]) | skip)
                                  have H' := Aside0.mk H
                                  clear H
                                  go_wp2
                                  repeat (go_quiet (fail); try go_wp2)
                                  go_meet
                                  case rel => exact ⟨_, (true), (by first | rfl | (simp; done) | (simp [*]; done)), H', ⟨by have := HJ1.out; have := HJ6.out; have := HK3.out; have := HJ23.out; have := HJ32.out; have := HJ39.out; first | omega | exact Nat.le_refl _⟩, ⟨by (with_reducible repeat (first | refine blk_drewN ?_ _ | refine blk_drew ?_ | refine blk_alloc ?_ _)); exact BK281.out⟩, ⟨by repeat (first | (with_reducible first | exact HB.out | apply below_alloc | apply pw_below_drewN | apply below_drew1 | refine below_set ?_ GE281.out) | exact HB.out)⟩⟩
                                · rw [if_neg c50] at H
                                  have c50b0 : decide (6 < (x8_39.size : Int)) = false := decide_eq_false c50
                                  have c50b1 : decide (6 < x8_39.size) = false := decide_eq_false (by omega)
                                  clear c50
                                  (first | rw [c50b0] | (simp only [i64_w, i32_w]; rw [c50b0]) | skip)
                                  have H' := Aside0.mk H
                                  clear H
                                  go_wp2
                                  repeat (go_quiet (fail); try go_wp2)
                                  go_meet
                                  case rel => exact ⟨_, (decide ((x7_23.size : Int) > 12)), (by first | rfl | (simp; done) | (simp [*]; done)), H', ⟨by have := HJ1.out; have := HJ6.out; have := HK3.out; have := HJ23.out; have := HJ32.out; have := HJ39.out; first | omega | exact Nat.le_refl _⟩, ⟨by (with_reducible repeat (first | refine blk_drewN ?_ _ | refine blk_drew ?_ | refine blk_alloc ?_ _)); exact BK281.out⟩, ⟨by repeat (first | (with_reducible first | exact HB.out | apply below_alloc | apply pw_below_drewN | apply below_drew1 | refine below_set ?_ GE281.out) | exact HB.out)⟩⟩
                              case rest =>
                                clear HC49
                                try clear c1
                                try clear p1
                                try clear q1
                                try clear hx1
                                try clear c2
                                try clear p2
                                try clear q2
                                try clear hx2
                                try clear c3
                                try clear p3
                                try clear q3
                                try clear hx3
                                try clear qi3
                                try clear c4
                                try clear c4b0
                                try clear c4b1
                                try clear p4
                                try clear q4
                                try clear hx4
                                try clear c5
                                try clear c5b0
                                try clear c5b1
                                try clear p6
                                try clear q6
                                try clear hx6
                                try clear qi6
                                try clear c8
                                try clear c9
                                try clear c9b0
                                try clear c9b1
                                try clear c10
                                try clear c10b0
                                try clear c12
                                try clear c12b0
                                try clear p13
                                try clear q13
                                try clear hx13
                                try clear c14
                                try clear c14b0
                                try clear c14b1
                                try clear c15
                                try clear c16
                                try clear c16b0
                                try clear c17
                                try clear c17b0
                                try clear p18
                                try clear q18
                                try clear hx18
                                try clear c19
                                try clear c19b0
                                try clear p21
                                try clear q21
                                try clear hx21
                                try clear c22
                                try clear c22b0
                                try clear c25
                                try clear c25b0
                                try clear c26
                                try clear c26b0
                                try clear c26b1
                                try clear c27
                                try clear c27b0
                                try clear c27b1
                                try clear c29
                                try clear c29b0
                                try clear c29b1
                                try clear c30
                                try clear c30b0
                                try clear c30b1
                                try clear c31
                                try clear c31b0
                                try clear c31b1
                                try clear c34
                                try clear c34b0
                                try clear c34b1
                                try clear c35
                                try clear c35b0
                                try clear c35b1
                                try clear c36
                                try clear c36b0
                                try clear c36b1
                                try clear p37
                                try clear q37
                                try clear hx37
                                try clear qi37
                                try clear c38
                                try clear c41
                                try clear c41b0
                                try clear c41b1
                                try clear c43
                                try clear c43b0
                                try clear c44
                                try clear c44b0
                                try clear p45
                                try clear q45
                                try clear hx45
                                try clear c46
                                try clear c46b0
                                try clear c46b1
                                try clear c47
                                try clear c47b0
                                try clear c48
                                try clear c48b0
                                try clear c48b1
                                try clear c50
                                try clear c50b0
                                try clear c50b1
                                try clear hcz20_0
                                try clear hcz20_1
                                try clear hcz23_0
                                try clear hcz23_1
                                try clear hcz32_0
                                try clear hcz32_1
                                try clear hcz39_0
                                try clear hcz39_1
                                try clear hfz20_0
                                try clear hfz20_1
                                try clear hfz23_0
                                try clear hfz23_1
                                try clear hfz32_0
                                try clear hfz32_1
                                try clear hfz39_0
                                try clear hfz39_1
                                try clear p1
                                try clear p13
                                try clear p18
                                try clear p2
                                try clear p21
                                try clear p3
                                try clear p37
                                try clear p4
                                try clear p45
                                try clear p6
                                try clear q1
                                try clear q13
                                try clear q18
                                try clear q2
                                try clear q21
                                try clear q3
                                try clear q37
                                try clear q4
                                try clear q45
                                try clear q6
                                obtain ⟨kq, x98_48, rfl, HA, HJ48, BK281, HB⟩ := hcut
                                cases kq with
                                | zero => exact absurd HA.out (by simp [soffitref01_Parse.j8])
                                | succ kj48 =>
                                  have H := HA.out
                                  clear HA
                                  simp only [soffitref01_Parse.j8] at H
                                  by_cases c51 : x98_48 = true
                                  · subst c51
                                    have H1 : (some (0, 0, 3)) = some (r1, r2, r3) := by rw [if_pos rfl] at H; exact H
                                    clear H
                                    have H := H1
                                    clear H1
                                    simp only [Option.some.injEq, Prod.mk.injEq] at H
                                    obtain ⟨rfl, rfl, rfl⟩ := H
                                    have hcz52_0 : wc.cell? ⟨gb281, 0, none⟩ = some (.int .i64 x282000_23) := (blk_cell BK281.out 0).trans rfl
                                    have hcz52_1 : wc.cell? ⟨gb281, 1, none⟩ = some (.int .i64 x282001_23) := (blk_cell BK281.out 1).trans rfl
                                    have hfz52_0 := blk_frozen BK281.out 0
                                    have hfz52_1 := blk_frozen BK281.out 1
                                    go_wp2
                                    repeat (go_quiet (fail); try go_wp2)
                                    refine bodyPost_ret (results_ct rfl _ _ gb281 23 #[.int .i64 0, .int .i64 0] (0, 0) _ rfl (by (with_reducible repeat (first | refine blk_drewN ?_ _ | refine blk_drew ?_ | refine blk_alloc ?_ _)); refine blk_put (cs := #[.int .i64 0, .int .i64 x282001_23]) ?_ 1 _ rfl; (with_reducible repeat (first | refine blk_drewN ?_ _ | refine blk_drew ?_ | refine blk_alloc ?_ _)); refine blk_put (cs := #[.int .i64 x282000_23, .int .i64 x282001_23]) ?_ 0 _ rfl; (with_reducible repeat (first | refine blk_drewN ?_ _ | refine blk_drew ?_ | refine blk_alloc ?_ _)); exact BK281.out) Tryd.underlying23 rfl (by kernel_rfl)) rfl ?_
                                    exact ⟨by first | rfl | (simp [errW_none, errW_some] <;> rfl) | (simp [*, errW_none, errW_some] <;> rfl), by repeat (first | (with_reducible first | exact HB.out | apply below_alloc | apply pw_below_drewN | apply below_drew1 | refine below_set ?_ GE281.out) | exact HB.out)⟩
                                  · replace c51 := Bool.eq_false_iff.mpr c51
                                    subst c51
                                    have H1 : (if x7_23.size + x8_39.size ≤ 9223372036854775807 then (if 60 ≤ 35184372088832 then (soffitref01_Parse.l2 kj48 x4_1 x8_39 (x7_23 ++ x8_39) (List.replicate 60 0) 0) else (none)) else (none)) = some (r1, r2, r3) := by rw [if_neg (show ¬ (false = true) by decide)] at H; exact H
                                    clear H
                                    have H := H1
                                    clear H1
                                    by_cases c53 : x7_23.size + x8_39.size ≤ 9223372036854775807
                                    · rw [if_pos c53] at H
                                      have c53b0 := eq_true c53
                                      have c53b1 : decide (x7_23.size + x8_39.size ≤ 9223372036854775807) = true := decide_eq_true c53
                                      try have c53b2 : (9223372036854775807 < x7_23.size + x8_39.size) = False := eq_false (Nat.not_lt.2 c53)
                                      by_cases c54 : 60 ≤ 35184372088832
                                      · rw [if_pos c54] at H
                                        have c54b0 := eq_true c54
                                        have c54b1 : decide (60 ≤ 35184372088832) = true := decide_eq_true c54
                                        clear c54
                                        obtain ⟨y282, hy282⟩ : ∃ y_ : List Int, y_ = (List.replicate 60 0) := ⟨_, rfl⟩
                                        replace H : (soffitref01_Parse.l2 kj48 x4_1 x8_39 (x7_23 ++ x8_39) y282 0) = some (r1, r2, r3) := by first | (rw [hy282]; with_reducible exact H) | (have H2_ := (Option.bind_some _ _).symm.trans H; rw [hy282]; with_reducible exact H2_) | (have H2_ := (Option.bind_some _ _).symm.trans H; with_reducible exact H2_) | with_reducible exact H | (rw [hy282]; exact H) | exact H
                                        have Ny282 := Aside0.mk hy282
                                        clear hy282
                                        have H' := Aside0.mk H
                                        clear H
                                        go_wp2_with (first | ((with_reducible refine gate_dst (N := 103) rfl ?_); (try (refine gate_guard (by rfl) ?_; dsimp only)); refine Kd.R_make (Kd.int .i64) _ 3 rfl (N := 103) rfl 55 _ _ rfl 60 rfl rfl Tryd.underlying55 (.int .i64 0) 8 info3 rfl (by decide) (by omega) 0 (ok := fun _ => True) (okp := fun _ => True) rfl (fun _ hk => hk) trivial (by omega) (by omega) (Below.refl _ _) (Nat.le_refl _) ?_; intro v283 w55 ho56 hb hg_ hnew_; clear hg_ hnew_; (first | rw [← Ny282.out] at ho56 | (simp only [Int.reduceToNat] at ho56; rw [← Ny282.out] at ho56)); have n0_ := Aside0.mk (Kd.R_lower ho56 (below_size (by repeat (first | (with_reducible first | exact HB.out | apply below_alloc | apply pw_below_drewN | apply below_drew1 | refine below_set ?_ GE281.out) | exact HB.out)))); have n1_ := Aside0.mk (blk_below (g := gb281) (o := .cells #[.int .i64 x282000_23, .int .i64 x282001_23] 23 (0, 0)) (by (with_reducible repeat (first | refine blk_drewN ?_ _ | refine blk_drew ?_ | refine blk_alloc ?_ _)); exact BK281.out) hb); have n2_ := Aside0.mk (below_step (by repeat (first | (with_reducible first | exact HB.out | apply below_alloc | apply pw_below_drewN | apply below_drew1 | refine below_set ?_ GE281.out) | exact HB.out)) hb); clear BK281; clear HB; have HO284 := n0_; have BK281 := n1_; have HB := n2_; clear n0_ n1_ n2_; clear hb ho56))
                                        repeat (go_quiet (first | ((with_reducible refine gate_dst (N := 103) rfl ?_); (try (refine gate_guard (by rfl) ?_; dsimp only)); refine Kd.R_make (Kd.int .i64) _ 3 rfl (N := 103) rfl 55 _ _ rfl 60 rfl rfl Tryd.underlying55 (.int .i64 0) 8 info3 rfl (by decide) (by omega) 0 (ok := fun _ => True) (okp := fun _ => True) rfl (fun _ hk => hk) trivial (by omega) (by omega) (Below.refl _ _) (Nat.le_refl _) ?_; intro v283 w55 ho56 hb hg_ hnew_; clear hg_ hnew_; (first | rw [← Ny282.out] at ho56 | (simp only [Int.reduceToNat] at ho56; rw [← Ny282.out] at ho56)); have n0_ := Aside0.mk (Kd.R_lower ho56 (below_size (by repeat (first | (with_reducible first | exact HB.out | apply below_alloc | apply pw_below_drewN | apply below_drew1 | refine below_set ?_ GE281.out) | exact HB.out)))); have n1_ := Aside0.mk (blk_below (g := gb281) (o := .cells #[.int .i64 x282000_23, .int .i64 x282001_23] 23 (0, 0)) (by (with_reducible repeat (first | refine blk_drewN ?_ _ | refine blk_drew ?_ | refine blk_alloc ?_ _)); exact BK281.out) hb); have n2_ := Aside0.mk (below_step (by repeat (first | (with_reducible first | exact HB.out | apply below_alloc | apply pw_below_drewN | apply below_drew1 | refine below_set ?_ GE281.out) | exact HB.out)) hb); clear BK281; clear HB; have HO284 := n0_; have BK281 := n1_; have HB := n2_; clear n0_ n1_ n2_; clear hb ho56)); try go_wp2_with (first | ((with_reducible refine gate_dst (N := 103) rfl ?_); (try (refine gate_guard (by rfl) ?_; dsimp only)); refine Kd.R_make (Kd.int .i64) _ 3 rfl (N := 103) rfl 55 _ _ rfl 60 rfl rfl Tryd.underlying55 (.int .i64 0) 8 info3 rfl (by decide) (by omega) 0 (ok := fun _ => True) (okp := fun _ => True) rfl (fun _ hk => hk) trivial (by omega) (by omega) (Below.refl _ _) (Nat.le_refl _) ?_; intro v283 w55 ho56 hb hg_ hnew_; clear hg_ hnew_; (first | rw [← Ny282.out] at ho56 | (simp only [Int.reduceToNat] at ho56; rw [← Ny282.out] at ho56)); have n0_ := Aside0.mk (Kd.R_lower ho56 (below_size (by repeat (first | (with_reducible first | exact HB.out | apply below_alloc | apply pw_below_drewN | apply below_drew1 | refine below_set ?_ GE281.out) | exact HB.out)))); have n1_ := Aside0.mk (blk_below (g := gb281) (o := .cells #[.int .i64 x282000_23, .int .i64 x282001_23] 23 (0, 0)) (by (with_reducible repeat (first | refine blk_drewN ?_ _ | refine blk_drew ?_ | refine blk_alloc ?_ _)); exact BK281.out) hb); have n2_ := Aside0.mk (below_step (by repeat (first | (with_reducible first | exact HB.out | apply below_alloc | apply pw_below_drewN | apply below_drew1 | refine below_set ?_ GE281.out) | exact HB.out)) hb); clear BK281; clear HB; have HO284 := n0_; have BK281 := n1_; have HB := n2_; clear n0_ n1_ n2_; clear hb ho56)))
                                        (try simp only [Act.put, List.setIfInBounds_toArray, List.set_cons_succ, List.set_cons_zero])
                                        go_loopg [11] kj48 (fun kq v11 w' => ∃ (x10_8 : List Int) (x11_8 : Int), v11 = .int .i64 x11_8 ∧ Aside0 (soffitref01_Parse.l2 kq x4_1 x8_39 (x7_23 ++ x8_39) x10_8 x11_8 = some (r1, r2, r3)) ∧ Aside0 (kq ≤ kj48) ∧ Aside0 (Kd.R (Kd.int .i64) 3 w' w.heap.size (fun _ => True) v283 x10_8) ∧ Aside0 (w'.heap[gb281]? = some (.cells #[.int .i64 x282000_23, .int .i64 x282001_23] 23 (0, 0))) ∧ Aside0 (Below w.heap.size w w'))
                                        case atStart => exact ⟨(y282), (0), (by first | rfl | (simp; done) | (simp [*]; done)), H', ⟨Nat.le_refl _⟩, ⟨by (with_reducible repeat (first | apply Kd.R_alloc | apply Kd.R_drewN | apply Kd.R_drew)); exact HO284.out⟩, ⟨by (with_reducible repeat (first | refine blk_drewN ?_ _ | refine blk_drew ?_ | refine blk_alloc ?_ _)); exact BK281.out⟩, ⟨by repeat (first | (with_reducible first | exact HB.out | apply below_alloc | apply pw_below_drewN | apply below_drew1 | refine below_set ?_ GE281.out) | exact HB.out)⟩⟩
                                        case round =>
                                          clear H'
                                          try clear c1
                                          try clear p1
                                          try clear q1
                                          try clear hx1
                                          try clear c2
                                          try clear p2
                                          try clear q2
                                          try clear hx2
                                          try clear c3
                                          try clear p3
                                          try clear q3
                                          try clear hx3
                                          try clear qi3
                                          try clear c4
                                          try clear c4b0
                                          try clear c4b1
                                          try clear p4
                                          try clear q4
                                          try clear hx4
                                          try clear c5
                                          try clear c5b0
                                          try clear c5b1
                                          try clear p6
                                          try clear q6
                                          try clear hx6
                                          try clear qi6
                                          try clear c8
                                          try clear c9
                                          try clear c9b0
                                          try clear c9b1
                                          try clear c10
                                          try clear c10b0
                                          try clear c12
                                          try clear c12b0
                                          try clear p13
                                          try clear q13
                                          try clear hx13
                                          try clear c14
                                          try clear c14b0
                                          try clear c14b1
                                          try clear c15
                                          try clear c16
                                          try clear c16b0
                                          try clear c17
                                          try clear c17b0
                                          try clear p18
                                          try clear q18
                                          try clear hx18
                                          try clear c19
                                          try clear c19b0
                                          try clear p21
                                          try clear q21
                                          try clear hx21
                                          try clear c22
                                          try clear c22b0
                                          try clear c25
                                          try clear c25b0
                                          try clear c26
                                          try clear c26b0
                                          try clear c26b1
                                          try clear c27
                                          try clear c27b0
                                          try clear c27b1
                                          try clear c29
                                          try clear c29b0
                                          try clear c29b1
                                          try clear c30
                                          try clear c30b0
                                          try clear c30b1
                                          try clear c31
                                          try clear c31b0
                                          try clear c31b1
                                          try clear c34
                                          try clear c34b0
                                          try clear c34b1
                                          try clear c35
                                          try clear c35b0
                                          try clear c35b1
                                          try clear c36
                                          try clear c36b0
                                          try clear c36b1
                                          try clear p37
                                          try clear q37
                                          try clear hx37
                                          try clear qi37
                                          try clear c38
                                          try clear c41
                                          try clear c41b0
                                          try clear c41b1
                                          try clear c43
                                          try clear c43b0
                                          try clear c44
                                          try clear c44b0
                                          try clear p45
                                          try clear q45
                                          try clear hx45
                                          try clear c46
                                          try clear c46b0
                                          try clear c46b1
                                          try clear c47
                                          try clear c47b0
                                          try clear c48
                                          try clear c48b0
                                          try clear c48b1
                                          try clear c50
                                          try clear c50b0
                                          try clear c50b1
                                          try clear c51
                                          try clear c53
                                          try clear c53b0
                                          try clear c53b1
                                          try clear c53b2
                                          try clear c54
                                          try clear c54b0
                                          try clear c54b1
                                          try clear hcz20_0
                                          try clear hcz20_1
                                          try clear hcz23_0
                                          try clear hcz23_1
                                          try clear hcz32_0
                                          try clear hcz32_1
                                          try clear hcz39_0
                                          try clear hcz39_1
                                          try clear hcz52_0
                                          try clear hcz52_1
                                          try clear hfz20_0
                                          try clear hfz20_1
                                          try clear hfz23_0
                                          try clear hfz23_1
                                          try clear hfz32_0
                                          try clear hfz32_1
                                          try clear hfz39_0
                                          try clear hfz39_1
                                          try clear hfz52_0
                                          try clear hfz52_1
                                          try clear p1
                                          try clear p13
                                          try clear p18
                                          try clear p2
                                          try clear p21
                                          try clear p3
                                          try clear p37
                                          try clear p4
                                          try clear p45
                                          try clear p6
                                          try clear q1
                                          try clear q13
                                          try clear q18
                                          try clear q2
                                          try clear q21
                                          try clear q3
                                          try clear q37
                                          try clear q4
                                          try clear q45
                                          try clear q6
                                          obtain ⟨x10_8, x11_8, rfl, HA, HK8, HO_10, BK281, HB⟩ := hrel
                                          cases gk with
                                          | zero => exact absurd HA.out (by simp [soffitref01_Parse.l2])
                                          | succ k8 =>
                                            have H := HA.out
                                            clear HA
                                            simp only [soffitref01_Parse.l2] at H
                                            by_cases c57 : x11_8 < ((x7_23 ++ x8_39).size : Int)
                                            · rw [if_pos c57] at H
                                              have c57b0 : decide (x11_8 < ((x7_23 ++ x8_39).size : Int)) = true := decide_eq_true c57
                                              (try (have c57b0s_ : decide (x11_8 < ((x7_23.size : Int) + (x8_39.size : Int))) = true := by have z := c57b0; simp only [ByteArray.size_append, Int.natCast_add] at z; exact z))
                                              clear c57
                                              by_cases c58 : 0 ≤ x11_8
                                              · rw [if_pos c58] at H
                                                have c58b0 : decide (0 ≤ x11_8) = true := decide_eq_true c58
                                                clear c58
                                                obtain ⟨ji60, hji60⟩ : ∃ j_ : Int, (wrap64 ((wrap64 (((x7_23 ++ x8_39).size : Int) - 1)) - x11_8)) = j_ := ⟨_, rfl⟩
                                                (try (have hji60s_ : wrap64 ((wrap64 (((x7_23.size : Int) + (x8_39.size : Int)) - 1)) - x11_8) = ji60 := by have z := hji60; simp only [ByteArray.size_append, Int.natCast_add] at z; exact z))
                                                replace H : (if 0 ≤ (ji60) then (if (ji60) < (x10_8.length : Int) then (soffitref01_Parse.l2 k8 x4_1 x8_39 (x7_23 ++ x8_39) (x10_8.set ((ji60) : Int).toNat (((bt (x7_23 ++ x8_39) x11_8) - 48) % 256)) (wrap64 (x11_8 + 1))) else (none)) else (none)) = some (r1, r2, r3) := by first | (rw [hji60] at H; exact H) | (simp only [hji60] at H ⊢; exact H)
                                                have hji60w : (IntKind.i64.wrap ((wrap64 (((x7_23 ++ x8_39).size : Int) - 1)) - x11_8)) = ji60 := (i64_w _).trans hji60
                                                by_cases c61 : 0 ≤ (ji60)
                                                · rw [if_pos c61] at H
                                                  have c61b0 : decide (0 ≤ (ji60)) = true := decide_eq_true c61
                                                  clear c61
                                                  by_cases c62 : (ji60) < (x10_8.length : Int)
                                                  · rw [if_pos c62] at H
                                                    have c62b0 : decide ((ji60) < (x10_8.length : Int)) = true := decide_eq_true c62
                                                    clear c62
                                                    obtain ⟨y285, hy285⟩ : ∃ y_ : List Int, y_ = (x10_8.set ((ji60) : Int).toNat (((bt (x7_23 ++ x8_39) x11_8) - 48) % 256)) := ⟨_, rfl⟩
                                                    replace H : (soffitref01_Parse.l2 k8 x4_1 x8_39 (x7_23 ++ x8_39) y285 (wrap64 (x11_8 + 1))) = some (r1, r2, r3) := by first | (rw [hy285]; with_reducible exact H) | (have H2_ := (Option.bind_some _ _).symm.trans H; rw [hy285]; with_reducible exact H2_) | (have H2_ := (Option.bind_some _ _).symm.trans H; with_reducible exact H2_) | with_reducible exact H | (rw [hy285]; exact H) | exact H
                                                    have Ny285 := Aside0.mk hy285
                                                    clear hy285
                                                    have H' := Aside0.mk H
                                                    clear H
                                                    have p59 : 0 ≤ (x11_8 : Int) := of_decide_eq_true (by first | (with_reducible assumption) | assumption)
                                                    have q59 : x11_8 < ((x7_23 ++ x8_39).size : Int) := of_decide_eq_true (by first | (with_reducible assumption) | assumption)
                                                    (try (have q59s_ : x11_8 < ((x7_23.size : Int) + (x8_39.size : Int)) := by have z := q59; simp only [ByteArray.size_append, Int.natCast_add] at z; exact z))
                                                    have hx59 := bt_at (x7_23 ++ x8_39) x11_8
                                                    replace p59 := eq_true p59
                                                    replace q59 := eq_true q59
                                                    have p63 : 0 ≤ ((ji60) : Int) := of_decide_eq_true (by first | (with_reducible assumption) | assumption)
                                                    have q63 : ((ji60) : Int) < ((x10_8.length : Int) : Int) := of_decide_eq_true (by first | (with_reducible assumption) | assumption)
                                                    obtain ⟨go63, co63, eo63, gb63, gl63, cl63, HG63⟩ := Kd.R_form HO_10.out (by omega)
                                                    (first | cases eo63 | (injection eo63 with ea_ en_ ec_; (first | subst ea_ | (injection ea_ with ea_; subst ea_)); subst ec_; clear en_))
                                                    have GB63 := Aside0.mk gb63
                                                    have GG63 := Aside0.mk HG63
                                                    clear gb63 gl63 HG63
                                                    obtain ⟨hx63_0, hf63_0⟩ := Kd.R_celln 0 HO_10.out ((ji60) : Int) p63 q63
                                                    replace p63 := eq_true p63
                                                    replace q63 := eq_true q63
                                                    obtain ⟨hy64_, hz64_⟩ := Kd.R_celln 0 HO_10.out ((ji60) : Int) (of_decide_eq_true (by first | (with_reducible assumption) | assumption)) (of_decide_eq_true (by first | (with_reducible assumption) | assumption))
                                                    have HP64 := Kd.R_putg HO_10.out ((ji60) : Int) (((bt (x7_23 ++ x8_39) x11_8) - 48) % 256)
                                                    go_wp2_with (first | ((with_reducible refine gate_store (t := 3) (p := 121) rfl ?_); (try (rw [drewN_self wr]; generalize hq_ : World.drewN wr _ = wr; have n0_ := Aside0.mk (Kd.R_at hq_ HO_10.out); have n1_ := Aside0.mk (blk_at hq_ BK281.out); have n2_ := Aside0.mk (below_at hq_ HB.out); clear hq_ HO_10 BK281 HB; have HO_10 := n0_; have BK281 := n1_; have HB := n2_; clear n0_ n1_ n2_; (try (obtain ⟨hy64_, hz64_⟩ := Kd.R_celln 0 HO_10.out ((ji60) : Int) (of_decide_eq_true (by first | (with_reducible assumption) | assumption)) (of_decide_eq_true (by first | (with_reducible assumption) | assumption)))); (try (have HP64 := Kd.R_putg HO_10.out ((ji60) : Int) (((bt (x7_23 ++ x8_39) x11_8) - 48) % 256))))); refine store_event (t := 3) (p := 121) (v := ?vo_w65) (w1 := (wr.setCell ⟨go63, ((ji60) : Int).toNat, none⟩ (.int .i64 (((bt (x7_23 ++ x8_39) x11_8) - 48) % 256)))) ?hg ?ho ?hn ?hr ?_; (case ho => rfl); (case hg => rfl); (case hn => rfl); (case hr => first | (go_simp; done) | (go_simp; rfl)); intro w65 hw; have hg : wr.grownBy w65 (some go63) := (by rw [hw]; exact HP64.2); have hp_ : Kd.R (Kd.int .i64) 3 w65 w.heap.size (fun _ => True) (.slice (some ⟨go63, 0, none⟩) x10_8.length co63) y285 := (by rw [hw, Ny285.out]; exact HP64.1); clear HP64; have n0_ := Aside0.mk (hp_); have n1_ := Aside0.mk (blk_grown (g := gb281) (o := .cells #[.int .i64 x282000_23, .int .i64 x282001_23] 23 (0, 0)) (by (with_reducible repeat (first | refine blk_drewN ?_ _ | refine blk_drew ?_ | refine blk_alloc ?_ _)); exact BK281.out) hg (Kd.R_ne HO_10.out BK281.out (by decide))); have n2_ := Aside0.mk ((by rw [hw]; exact below_set (HB.out) GB63.out : Below w.heap.size w w65)); clear HO_10; clear BK281; clear HB; have HO_10 := n0_; have BK281 := n1_; have HB := n2_; clear n0_ n1_ n2_; clear hg hw hp_))
                                                    repeat (go_quiet (first | ((with_reducible refine gate_store (t := 3) (p := 121) rfl ?_); (try (rw [drewN_self wr]; generalize hq_ : World.drewN wr _ = wr; have n0_ := Aside0.mk (Kd.R_at hq_ HO_10.out); have n1_ := Aside0.mk (blk_at hq_ BK281.out); have n2_ := Aside0.mk (below_at hq_ HB.out); clear hq_ HO_10 BK281 HB; have HO_10 := n0_; have BK281 := n1_; have HB := n2_; clear n0_ n1_ n2_; (try (obtain ⟨hy64_, hz64_⟩ := Kd.R_celln 0 HO_10.out ((ji60) : Int) (of_decide_eq_true (by first | (with_reducible assumption) | assumption)) (of_decide_eq_true (by first | (with_reducible assumption) | assumption)))); (try (have HP64 := Kd.R_putg HO_10.out ((ji60) : Int) (((bt (x7_23 ++ x8_39) x11_8) - 48) % 256))))); refine store_event (t := 3) (p := 121) (v := ?vo_w65) (w1 := (wr.setCell ⟨go63, ((ji60) : Int).toNat, none⟩ (.int .i64 (((bt (x7_23 ++ x8_39) x11_8) - 48) % 256)))) ?hg ?ho ?hn ?hr ?_; (case ho => rfl); (case hg => rfl); (case hn => rfl); (case hr => first | (go_simp; done) | (go_simp; rfl)); intro w65 hw; have hg : wr.grownBy w65 (some go63) := (by rw [hw]; exact HP64.2); have hp_ : Kd.R (Kd.int .i64) 3 w65 w.heap.size (fun _ => True) (.slice (some ⟨go63, 0, none⟩) x10_8.length co63) y285 := (by rw [hw, Ny285.out]; exact HP64.1); clear HP64; have n0_ := Aside0.mk (hp_); have n1_ := Aside0.mk (blk_grown (g := gb281) (o := .cells #[.int .i64 x282000_23, .int .i64 x282001_23] 23 (0, 0)) (by (with_reducible repeat (first | refine blk_drewN ?_ _ | refine blk_drew ?_ | refine blk_alloc ?_ _)); exact BK281.out) hg (Kd.R_ne HO_10.out BK281.out (by decide))); have n2_ := Aside0.mk ((by rw [hw]; exact below_set (HB.out) GB63.out : Below w.heap.size w w65)); clear HO_10; clear BK281; clear HB; have HO_10 := n0_; have BK281 := n1_; have HB := n2_; clear n0_ n1_ n2_; clear hg hw hp_)); try go_wp2_with (first | ((with_reducible refine gate_store (t := 3) (p := 121) rfl ?_); (try (rw [drewN_self wr]; generalize hq_ : World.drewN wr _ = wr; have n0_ := Aside0.mk (Kd.R_at hq_ HO_10.out); have n1_ := Aside0.mk (blk_at hq_ BK281.out); have n2_ := Aside0.mk (below_at hq_ HB.out); clear hq_ HO_10 BK281 HB; have HO_10 := n0_; have BK281 := n1_; have HB := n2_; clear n0_ n1_ n2_; (try (obtain ⟨hy64_, hz64_⟩ := Kd.R_celln 0 HO_10.out ((ji60) : Int) (of_decide_eq_true (by first | (with_reducible assumption) | assumption)) (of_decide_eq_true (by first | (with_reducible assumption) | assumption)))); (try (have HP64 := Kd.R_putg HO_10.out ((ji60) : Int) (((bt (x7_23 ++ x8_39) x11_8) - 48) % 256))))); refine store_event (t := 3) (p := 121) (v := ?vo_w65) (w1 := (wr.setCell ⟨go63, ((ji60) : Int).toNat, none⟩ (.int .i64 (((bt (x7_23 ++ x8_39) x11_8) - 48) % 256)))) ?hg ?ho ?hn ?hr ?_; (case ho => rfl); (case hg => rfl); (case hn => rfl); (case hr => first | (go_simp; done) | (go_simp; rfl)); intro w65 hw; have hg : wr.grownBy w65 (some go63) := (by rw [hw]; exact HP64.2); have hp_ : Kd.R (Kd.int .i64) 3 w65 w.heap.size (fun _ => True) (.slice (some ⟨go63, 0, none⟩) x10_8.length co63) y285 := (by rw [hw, Ny285.out]; exact HP64.1); clear HP64; have n0_ := Aside0.mk (hp_); have n1_ := Aside0.mk (blk_grown (g := gb281) (o := .cells #[.int .i64 x282000_23, .int .i64 x282001_23] 23 (0, 0)) (by (with_reducible repeat (first | refine blk_drewN ?_ _ | refine blk_drew ?_ | refine blk_alloc ?_ _)); exact BK281.out) hg (Kd.R_ne HO_10.out BK281.out (by decide))); have n2_ := Aside0.mk ((by rw [hw]; exact below_set (HB.out) GB63.out : Below w.heap.size w w65)); clear HO_10; clear BK281; clear HB; have HO_10 := n0_; have BK281 := n1_; have HB := n2_; clear n0_ n1_ n2_; clear hg hw hp_)))
                                                    go_roundg k8
                                                    case measure => have := HJ1.out; have := HJ6.out; have := HK3.out; have := HJ23.out; have := HJ32.out; have := HJ39.out; have := HJ48.out; have := HK8.out; omega
                                                    case rel => exact ⟨(y285), (wrap64 (x11_8 + 1)), (by first | rfl | (simp; done) | (simp [*]; done)), H', ⟨by have := HJ1.out; have := HJ6.out; have := HK3.out; have := HJ23.out; have := HJ32.out; have := HJ39.out; have := HJ48.out; have := HK8.out; omega⟩, ⟨by (with_reducible repeat (first | apply Kd.R_alloc | apply Kd.R_drewN | apply Kd.R_drew)); exact HO_10.out⟩, ⟨by (with_reducible repeat (first | refine blk_drewN ?_ _ | refine blk_drew ?_ | refine blk_alloc ?_ _)); exact BK281.out⟩, ⟨by repeat (first | (with_reducible first | exact HB.out | apply below_alloc | apply pw_below_drewN | apply below_drew1 | refine below_set ?_ GE281.out) | exact HB.out)⟩⟩
                                                  · rw [if_neg c62] at H
                                                    exact absurd H (by simp)
                                                · rw [if_neg c61] at H
                                                  exact absurd H (by simp)
                                              · rw [if_neg c58] at H
                                                exact absurd H (by simp)
                                            · rw [if_neg c57] at H
                                              have c57b0 : decide (x11_8 < ((x7_23 ++ x8_39).size : Int)) = false := decide_eq_false c57
                                              (try (have c57b0s_ : decide (x11_8 < ((x7_23.size : Int) + (x8_39.size : Int))) = false := by have z := c57b0; simp only [ByteArray.size_append, Int.natCast_add] at z; exact z))
                                              clear c57
                                              replace H := Option.bind_eq_some_iff.mp H
                                              obtain ⟨⟨t286, t287, t288⟩, A660, H⟩ := H
                                              replace H : (some (t286, t287, t288)) = some (r1, r2, r3) := H
                                              have A66 := Aside0.mk A660
                                              clear A660
                                              simp only [Option.some.injEq, Prod.mk.injEq] at H
                                              obtain ⟨rfl, rfl, rfl⟩ := H
                                              obtain ⟨Ao67, co67, eo67⟩ := Kd.R_slice HO_10.out
                                              subst eo67
                                              go_wp2_with (first | (go_at_call 34; (with_reducible refine (soffitref01_dec.calls k8 (fun k_ => some k_ = (.slice Ao67 x10_8.length co67 : Value).ownBlock) _ _ x10_8 (x8_39.size : Int) x4_1 t286 t287 t288 _ ?side1 A66.out).mono ?_); (case side1 => exact Kd.R_V (Kd.R_tight rfl (Kd.R_types (HO_10.out) BK281.out (by decide)))); rintro e w68 ⟨rfl, hb⟩; have n0_ := Aside0.mk (Kd.R_below (by (with_reducible repeat (first | apply Kd.R_alloc | apply Kd.R_drewN | apply Kd.R_drew)); exact HO_10.out) hb); have n1_ := Aside0.mk (blk_below (g := gb281) (o := .cells #[.int .i64 x282000_23, .int .i64 x282001_23] 23 (0, 0)) (by (with_reducible repeat (first | refine blk_drewN ?_ _ | refine blk_drew ?_ | refine blk_alloc ?_ _)); exact BK281.out) hb); have n2_ := Aside0.mk (below_step (by repeat (first | (with_reducible first | exact HB.out | apply below_alloc | apply pw_below_drewN | apply below_drew1 | refine below_set ?_ GE281.out) | exact HB.out)) hb); clear HO_10; clear BK281; clear HB; have HO_10 := n0_; have BK281 := n1_; have HB := n2_; clear n0_ n1_ n2_; (try clear hb); (try clear hb2); (try clear hk); (try clear hi); have hcz69_0 : w68.cell? ⟨gb281, 0, none⟩ = some (.int .i64 x282000_23) := (blk_cell BK281.out 0).trans rfl; have hcz69_1 : w68.cell? ⟨gb281, 1, none⟩ = some (.int .i64 x282001_23) := (blk_cell BK281.out 1).trans rfl; have hfz69_0 := blk_frozen BK281.out 0; have hfz69_1 := blk_frozen BK281.out 1))
                                              repeat (go_quiet (first | (go_at_call 34; (with_reducible refine (soffitref01_dec.calls k8 (fun k_ => some k_ = (.slice Ao67 x10_8.length co67 : Value).ownBlock) _ _ x10_8 (x8_39.size : Int) x4_1 t286 t287 t288 _ ?side1 A66.out).mono ?_); (case side1 => exact Kd.R_V (Kd.R_tight rfl (Kd.R_types (HO_10.out) BK281.out (by decide)))); rintro e w68 ⟨rfl, hb⟩; have n0_ := Aside0.mk (Kd.R_below (by (with_reducible repeat (first | apply Kd.R_alloc | apply Kd.R_drewN | apply Kd.R_drew)); exact HO_10.out) hb); have n1_ := Aside0.mk (blk_below (g := gb281) (o := .cells #[.int .i64 x282000_23, .int .i64 x282001_23] 23 (0, 0)) (by (with_reducible repeat (first | refine blk_drewN ?_ _ | refine blk_drew ?_ | refine blk_alloc ?_ _)); exact BK281.out) hb); have n2_ := Aside0.mk (below_step (by repeat (first | (with_reducible first | exact HB.out | apply below_alloc | apply pw_below_drewN | apply below_drew1 | refine below_set ?_ GE281.out) | exact HB.out)) hb); clear HO_10; clear BK281; clear HB; have HO_10 := n0_; have BK281 := n1_; have HB := n2_; clear n0_ n1_ n2_; (try clear hb); (try clear hb2); (try clear hk); (try clear hi); have hcz69_0 : w68.cell? ⟨gb281, 0, none⟩ = some (.int .i64 x282000_23) := (blk_cell BK281.out 0).trans rfl; have hcz69_1 : w68.cell? ⟨gb281, 1, none⟩ = some (.int .i64 x282001_23) := (blk_cell BK281.out 1).trans rfl; have hfz69_0 := blk_frozen BK281.out 0; have hfz69_1 := blk_frozen BK281.out 1)); try go_wp2_with (first | (go_at_call 34; (with_reducible refine (soffitref01_dec.calls k8 (fun k_ => some k_ = (.slice Ao67 x10_8.length co67 : Value).ownBlock) _ _ x10_8 (x8_39.size : Int) x4_1 t286 t287 t288 _ ?side1 A66.out).mono ?_); (case side1 => exact Kd.R_V (Kd.R_tight rfl (Kd.R_types (HO_10.out) BK281.out (by decide)))); rintro e w68 ⟨rfl, hb⟩; have n0_ := Aside0.mk (Kd.R_below (by (with_reducible repeat (first | apply Kd.R_alloc | apply Kd.R_drewN | apply Kd.R_drew)); exact HO_10.out) hb); have n1_ := Aside0.mk (blk_below (g := gb281) (o := .cells #[.int .i64 x282000_23, .int .i64 x282001_23] 23 (0, 0)) (by (with_reducible repeat (first | refine blk_drewN ?_ _ | refine blk_drew ?_ | refine blk_alloc ?_ _)); exact BK281.out) hb); have n2_ := Aside0.mk (below_step (by repeat (first | (with_reducible first | exact HB.out | apply below_alloc | apply pw_below_drewN | apply below_drew1 | refine below_set ?_ GE281.out) | exact HB.out)) hb); clear HO_10; clear BK281; clear HB; have HO_10 := n0_; have BK281 := n1_; have HB := n2_; clear n0_ n1_ n2_; (try clear hb); (try clear hb2); (try clear hk); (try clear hi); have hcz69_0 : w68.cell? ⟨gb281, 0, none⟩ = some (.int .i64 x282000_23) := (blk_cell BK281.out 0).trans rfl; have hcz69_1 : w68.cell? ⟨gb281, 1, none⟩ = some (.int .i64 x282001_23) := (blk_cell BK281.out 1).trans rfl; have hfz69_0 := blk_frozen BK281.out 0; have hfz69_1 := blk_frozen BK281.out 1)))
                                              refine bodyPost_ret (results_ct rfl _ _ gb281 23 #[.int .i64 t286, .int .i64 t287] (0, 0) _ rfl (by (with_reducible repeat (first | refine blk_drewN ?_ _ | refine blk_drew ?_ | refine blk_alloc ?_ _)); refine blk_put (cs := #[.int .i64 t286, .int .i64 x282001_23]) ?_ 1 _ rfl; (with_reducible repeat (first | refine blk_drewN ?_ _ | refine blk_drew ?_ | refine blk_alloc ?_ _)); refine blk_put (cs := #[.int .i64 x282000_23, .int .i64 x282001_23]) ?_ 0 _ rfl; (with_reducible repeat (first | refine blk_drewN ?_ _ | refine blk_drew ?_ | refine blk_alloc ?_ _)); exact BK281.out) Tryd.underlying23 rfl (by kernel_rfl)) rfl ?_
                                              exact ⟨by first | rfl | (simp [errW_none, errW_some] <;> rfl) | (simp [*, errW_none, errW_some] <;> rfl), by repeat (first | (with_reducible first | exact HB.out | apply below_alloc | apply pw_below_drewN | apply below_drew1 | refine below_set ?_ GE281.out) | exact HB.out)⟩
                                      · rw [if_neg c54] at H
                                        exact absurd H (by simp)
                                    · rw [if_neg c53] at H
                                      exact absurd H (by simp)
end Go.Proofs.YtgkemhgihbfmmaaDoor.PA
end
section
namespace Go.Proofs.YtgkemhgihbfmmaaDoor.PA
open Go.RowKit Go.Proofs.YtgkemhgihbfmmaaDoorW.PrintWords Go.Proofs.YtgkemhgihbfmmaaDoorW.PrintLast Go.Proofs.YtgkemhgihbfmmaaDoorW.PrintMore
attribute [local go_sem] max2_int min2_int max_two min_two max_three min_three max_four min_four
set_option linter.unusedVariables false
set_option linter.unusedSimpArgs false
attribute [local go_sem high] eqA23
def soffitlaw01_DeciTexts.f (k : Nat) (a0_0 : Int) (a0_1 : Int) (a1 : ByteArray) : Option (Bool) := (deci_Text.f k a0_0 a0_1).bind fun bt290 => ((soffitref01_Text.f k a0_0 a0_1).bind fun bt292 => ((deci_Parse.f k a1).bind fun bt294 => ((soffitref01_Parse.f k a1).bind fun bt298 => ((soffitlaw01_awake.f k).bind fun t302 => (if t302 = true then (if bt290.1.toList = bt292.1.toList then (if bt290.2 = bt292.2 then (if (bt294.1 == bt298.1 && (bt294.2.1 == bt298.2.1)) = true then (some (bt294.2.2 == bt298.2.2)) else (some false)) else (some false)) else (some false)) else (some false))))))
theorem soffitlaw01_DeciTexts.mono : ∀ a0 a1 a2 k, LeO (soffitlaw01_DeciTexts.f k a0 a1 a2) (soffitlaw01_DeciTexts.f (k + 1) a0 a1 a2) := by
  intro a0 a1 a2 k
  unfold soffitlaw01_DeciTexts.f
  repeat' first
      | (with_reducible exact deci_Parse.mono _ _)
      | (with_reducible exact deci_Text.mono _ _ _)
      | (with_reducible exact soffitlaw01_awake.mono _)
      | (with_reducible exact soffitref01_Parse.mono _ _)
      | (with_reducible exact soffitref01_Text.mono _ _ _)
      | (with_reducible exact LeO.refl _)
      | (with_reducible exact LeO.none _)
      | (with_reducible refine LeO.ite ?_ ?_)
      | (with_reducible refine LeO.bind ?_ (fun _ => ?_))
      | exact deci_Parse.mono _ _
      | exact deci_Text.mono _ _ _
      | exact soffitlaw01_awake.mono _
      | exact soffitref01_Parse.mono _ _
      | exact soffitref01_Text.mono _ _ _
      | exact LeO.none _
      | refine LeO.ite ?_ ?_
      | refine LeO.bind ?_ (fun _ => ?_)
set_option maxHeartbeats 8000000 in
set_option maxRecDepth 100000 in
theorem soffitlaw01_DeciTexts.calls (k : Nat) (a0_0 : Int) (a0_1 : Int) (a1 : ByteArray) (r : Bool) (w : World) (hT : Tabs w) (hr : r = true) (h : soffitlaw01_DeciTexts.f k a0_0 a0_1 a1 = some r) :
    Calls Tryd.prog 5 #[.agg #[.int .i64 a0_0, .int .i64 a0_1], .string a1] w fun e w' => e = .returned (.bool r) ∧ Below w.heap.size w w' := by
  have hu23 := Tryd.underlying23
  have HT := Aside0.mk hT
  clear hT
  have HR := Aside0.mk hr
  clear hr
  have HB := Aside0.mk (Below.refl w.heap.size w)
  have H : ((deci_Text.f k a0_0 a0_1).bind fun bt290 => ((soffitref01_Text.f k a0_0 a0_1).bind fun bt292 => ((deci_Parse.f k a1).bind fun bt294 => ((soffitref01_Parse.f k a1).bind fun bt298 => ((soffitlaw01_awake.f k).bind fun t302 => (if t302 = true then (if bt290.1.toList = bt292.1.toList then (if bt290.2 = bt292.2 then (if (bt294.1 == bt298.1 && (bt294.2.1 == bt298.2.1)) = true then (some (bt294.2.2 == bt298.2.2)) else (some false)) else (some false)) else (some false)) else (some false))))))) = some r := h
  clear h
  replace H := Option.bind_eq_some_iff.mp H
  obtain ⟨⟨t290, t291⟩, A30, H⟩ := H
  replace H : ((soffitref01_Text.f k a0_0 a0_1).bind fun bt292 => ((deci_Parse.f k a1).bind fun bt294 => ((soffitref01_Parse.f k a1).bind fun bt298 => ((soffitlaw01_awake.f k).bind fun t302 => (if t302 = true then (if t290.toList = bt292.1.toList then (if t291 = bt292.2 then (if (bt294.1 == bt298.1 && (bt294.2.1 == bt298.2.1)) = true then (some (bt294.2.2 == bt298.2.2)) else (some false)) else (some false)) else (some false)) else (some false)))))) = some r := H
  have A3 := Aside0.mk A30
  clear A30
  replace H := Option.bind_eq_some_iff.mp H
  obtain ⟨⟨t292, t293⟩, A40, H⟩ := H
  replace H : ((deci_Parse.f k a1).bind fun bt294 => ((soffitref01_Parse.f k a1).bind fun bt298 => ((soffitlaw01_awake.f k).bind fun t302 => (if t302 = true then (if t290.toList = t292.toList then (if t291 = t293 then (if (bt294.1 == bt298.1 && (bt294.2.1 == bt298.2.1)) = true then (some (bt294.2.2 == bt298.2.2)) else (some false)) else (some false)) else (some false)) else (some false))))) = some r := H
  have A4 := Aside0.mk A40
  clear A40
  replace H := Option.bind_eq_some_iff.mp H
  obtain ⟨⟨t294, t295, t296⟩, A50, H⟩ := H
  replace H : ((soffitref01_Parse.f k a1).bind fun bt298 => ((soffitlaw01_awake.f k).bind fun t302 => (if t302 = true then (if t290.toList = t292.toList then (if t291 = t293 then (if (t294 == bt298.1 && (t295 == bt298.2.1)) = true then (some (t296 == bt298.2.2)) else (some false)) else (some false)) else (some false)) else (some false)))) = some r := H
  have A5 := Aside0.mk A50
  clear A50
  replace H := Option.bind_eq_some_iff.mp H
  obtain ⟨⟨t298, t299, t300⟩, A60, H⟩ := H
  replace H : ((soffitlaw01_awake.f k).bind fun t302 => (if t302 = true then (if t290.toList = t292.toList then (if t291 = t293 then (if (t294 == t298 && (t295 == t299)) = true then (some (t296 == t300)) else (some false)) else (some false)) else (some false)) else (some false))) = some r := H
  have A6 := Aside0.mk A60
  clear A60
  replace H := Option.bind_eq_some_iff.mp H
  obtain ⟨t302, A70, H⟩ := H
  replace H : (if t302 = true then (if t290.toList = t292.toList then (if t291 = t293 then (if (t294 == t298 && (t295 == t299)) = true then (some (t296 == t300)) else (some false)) else (some false)) else (some false)) else (some false)) = some r := H
  have A7 := Aside0.mk A70
  clear A70
  by_cases c8 : t302 = true
  · subst c8
    have H1 : (if t290.toList = t292.toList then (if t291 = t293 then (if (t294 == t298 && (t295 == t299)) = true then (some (t296 == t300)) else (some false)) else (some false)) else (some false)) = some r := by rw [if_pos rfl] at H; exact H
    clear H
    have H := H1
    clear H1
    by_cases c9 : t290.toList = t292.toList
    · rw [if_pos c9] at H
      have c9b0 : (t290.toList == t292.toList) = true := beq_iff_eq.mpr c9
      have c9b1 : (t290.toList != t292.toList) = false := bne_eq_false_iff_eq.mpr c9
      clear c9
      by_cases c10 : t291 = t293
      · rw [if_pos c10] at H
        have c10b0 : (t291 == t293) = true := beq_iff_eq.mpr c10
        have c10b1 : (t291 != t293) = false := bne_eq_false_iff_eq.mpr c10
        clear c10
        by_cases c11 : (t294 == t298 && (t295 == t299)) = true
        · rw [if_pos c11] at H
          have c11b0 : (t294 == t298 && (t295 == t299)) = true := c11
          (try (have c11b1 : decide (t294 = t298 && (t295 == t299)) = true := by simpa using c11))
          (try (have c11b2 : (t294 == t298 && (t295 == t299)) = true := by simpa using c11))
          clear c11
          obtain rfl := Option.some.inj H
          go_enter Tryd.func5, Tryd.ntmps5
          go_wp2_with (first | ((with_reducible refine gate_dst (N := 2) rfl ?_); refine box_event ?hg (N := 2) ?hd (cs := #[.int .i64 a0_0, .int .i64 a0_1]) (t := 23) ?hr ?_; (case hd => rfl); (case hg => rfl); (case hr => first | (go_simp; done) | (go_simp; rfl)); intro gb289 hg w12 hbox hb; have n0_ := Aside0.mk (below_step (by repeat (first | (with_reducible first | exact HB.out | apply below_alloc | apply pw_below_drewN | apply below_drew1) | exact HB.out)) hb); have n1_ := Aside0.mk (hbox); have n2_ := Aside0.mk ((by rw [hg]; exact (below_size (by repeat (first | (with_reducible first | exact HB.out | apply below_alloc | apply pw_below_drewN | apply below_drew1) | exact HB.out))) : w.heap.size ≤ gb289)); have n3_ := Aside0.mk ((by rw [hg]; exact (below_size (by repeat (first | (with_reducible first | exact HB.out | apply below_alloc | apply pw_below_drewN | apply below_drew1) | exact HB.out))) : w.heap.size ≤ gb289)); clear HB; have HB := n0_; have BK289 := n1_; have GW289 := n2_; have GE289 := n3_; clear n0_ n1_ n2_ n3_; clear hb hbox hg; have hcz13_0 : w12.cell? ⟨gb289, 0, none⟩ = some (.int .i64 a0_0) := (blk_cell BK289.out 0).trans rfl; have hcz13_1 : w12.cell? ⟨gb289, 1, none⟩ = some (.int .i64 a0_1) := (blk_cell BK289.out 1).trans rfl; have hfz13_0 := blk_frozen BK289.out 0; have hfz13_1 := blk_frozen BK289.out 1) | ((with_reducible refine gate_callee (f := 16) rfl ?_); refine goesL_ (some 15) rfl rfl Tryd.func16 (by kernel_rfl) rfl #[.agg #[.int .i64 a0_0, .int .i64 a0_1]] rfl (by (try simp only [List.map_toArray, List.map_cons, List.map_nil]); first | done | rfl | (simp only [List.length_drop, List.length_take]; rfl)) ?_; (with_reducible refine (deci_Text.calls k a0_0 a0_1 t290 t291 _ ?side1 A3.out).mono ?_); (case side1 => exact tabs_of HT.out (by repeat (first | (with_reducible first | exact HB.out | apply below_alloc | apply pw_below_drewN | apply below_drew1 | refine below_set ?_ GE289.out) | exact HB.out))); rintro e w14 ⟨rfl, hb⟩; refine ⟨_, rfl, ?_⟩; have n0_ := Aside0.mk (blk_below (g := gb289) (o := .cells #[.int .i64 a0_0, .int .i64 a0_1] 23 (0, 0)) (by (with_reducible repeat (first | refine blk_drewN ?_ _ | refine blk_drew ?_ | refine blk_alloc ?_ _)); exact BK289.out) hb); have n1_ := Aside0.mk (below_step (by repeat (first | (with_reducible first | exact HB.out | apply below_alloc | apply pw_below_drewN | apply below_drew1 | refine below_set ?_ GE289.out) | exact HB.out)) hb); clear BK289; clear HB; have BK289 := n0_; have HB := n1_; clear n0_ n1_; (try clear hb); (try clear hb2); (try clear hk); (try clear hi); have hcz15_0 : w14.cell? ⟨gb289, 0, none⟩ = some (.int .i64 a0_0) := (blk_cell BK289.out 0).trans rfl; have hcz15_1 : w14.cell? ⟨gb289, 1, none⟩ = some (.int .i64 a0_1) := (blk_cell BK289.out 1).trans rfl; have hfz15_0 := blk_frozen BK289.out 0; have hfz15_1 := blk_frozen BK289.out 1) | ((with_reducible refine gate_callee (f := 17) rfl ?_); refine goesL_ (some 20) rfl rfl Tryd.func17 (by kernel_rfl) rfl #[.agg #[.int .i64 a0_0, .int .i64 a0_1]] rfl (by (try simp only [List.map_toArray, List.map_cons, List.map_nil]); first | done | rfl | (simp only [List.length_drop, List.length_take]; rfl)) ?_; (with_reducible refine (soffitref01_Text.calls k a0_0 a0_1 t292 t293 _ A4.out).mono ?_); rintro e w16 ⟨rfl, hb⟩; refine ⟨_, rfl, ?_⟩; have n0_ := Aside0.mk (blk_below (g := gb289) (o := .cells #[.int .i64 a0_0, .int .i64 a0_1] 23 (0, 0)) (by (with_reducible repeat (first | refine blk_drewN ?_ _ | refine blk_drew ?_ | refine blk_alloc ?_ _)); exact BK289.out) hb); have n1_ := Aside0.mk (below_step (by repeat (first | (with_reducible first | exact HB.out | apply below_alloc | apply pw_below_drewN | apply below_drew1 | refine below_set ?_ GE289.out) | exact HB.out)) hb); clear BK289; clear HB; have BK289 := n0_; have HB := n1_; clear n0_ n1_; (try clear hb); (try clear hb2); (try clear hk); (try clear hi)) | ((with_reducible refine gate_callee (f := 18) rfl ?_); refine goesL_ (some 25) rfl rfl Tryd.func18 (by kernel_rfl) rfl #[.string a1] rfl (by (try simp only [List.map_toArray, List.map_cons, List.map_nil]); first | done | rfl | (simp only [List.length_drop, List.length_take]; rfl)) ?_; (with_reducible refine (deci_Parse.calls k a1 t294 t295 t296 _ A5.out).mono ?_); rintro e w17 ⟨rfl, hb⟩; refine ⟨_, rfl, ?_⟩; have n0_ := Aside0.mk (blk_below (g := gb289) (o := .cells #[.int .i64 a0_0, .int .i64 a0_1] 23 (0, 0)) (by (with_reducible repeat (first | refine blk_drewN ?_ _ | refine blk_drew ?_ | refine blk_alloc ?_ _)); exact BK289.out) hb); have n1_ := Aside0.mk (below_step (by repeat (first | (with_reducible first | exact HB.out | apply below_alloc | apply pw_below_drewN | apply below_drew1 | refine below_set ?_ GE289.out) | exact HB.out)) hb); clear BK289; clear HB; have BK289 := n0_; have HB := n1_; clear n0_ n1_; (try clear hb); (try clear hb2); (try clear hk); (try clear hi)) | ((with_reducible refine gate_dst (N := 9) rfl ?_); refine box_event ?hg (N := 9) ?hd (cs := #[.int .i64 0, .int .i64 0]) (t := 23) ?hr ?_; (case hd => rfl); (case hg => rfl); (case hr => first | (go_simp; done) | (go_simp; rfl)); intro gb297 hg w18 hbox hb; have n0_ := Aside0.mk (blk_below (g := gb289) (o := .cells #[.int .i64 a0_0, .int .i64 a0_1] 23 (0, 0)) (by (with_reducible repeat (first | refine blk_drewN ?_ _ | refine blk_drew ?_ | refine blk_alloc ?_ _)); exact BK289.out) hb); have n1_ := Aside0.mk (below_step (by repeat (first | (with_reducible first | exact HB.out | apply below_alloc | apply pw_below_drewN | apply below_drew1 | refine below_set ?_ GE289.out) | exact HB.out)) hb); have n2_ := Aside0.mk (hbox); have n3_ := Aside0.mk ((by rw [hg]; exact (below_size (by repeat (first | (with_reducible first | exact HB.out | apply below_alloc | apply pw_below_drewN | apply below_drew1 | refine below_set ?_ GE289.out) | exact HB.out))) : w.heap.size ≤ gb297)); have n4_ := Aside0.mk ((by rw [hg]; exact (below_size (by repeat (first | (with_reducible first | exact HB.out | apply below_alloc | apply pw_below_drewN | apply below_drew1 | refine below_set ?_ GE289.out) | exact HB.out))) : w.heap.size ≤ gb297)); have n5_ := Aside0.mk ((by rw [hg]; exact Nat.ne_of_lt (blk_lt (g := gb289) (o := .cells #[.int .i64 a0_0, .int .i64 a0_1] 23 (0, 0)) (by (with_reducible repeat (first | refine blk_drewN ?_ _ | refine blk_drew ?_ | refine blk_alloc ?_ _)); exact BK289.out)) : gb289 ≠ gb297)); have n6_ := Aside0.mk ((by rw [hg]; exact Nat.ne_of_gt (blk_lt (g := gb289) (o := .cells #[.int .i64 a0_0, .int .i64 a0_1] 23 (0, 0)) (by (with_reducible repeat (first | refine blk_drewN ?_ _ | refine blk_drew ?_ | refine blk_alloc ?_ _)); exact BK289.out)) : gb297 ≠ gb289)); clear BK289; clear HB; have BK289 := n0_; have HB := n1_; have BK297 := n2_; have GW297 := n3_; have GE297 := n4_; have NB289_297 := n5_; have NB297_289 := n6_; clear n0_ n1_ n2_ n3_ n4_ n5_ n6_; clear hb hbox hg; have hnb19 := NB297_289.out; have hnc19 := NB289_297.out; have hcz20_0 : w18.cell? ⟨gb297, 0, none⟩ = some (.int .i64 0) := (blk_cell BK297.out 0).trans rfl; have hcz20_1 : w18.cell? ⟨gb297, 1, none⟩ = some (.int .i64 0) := (blk_cell BK297.out 1).trans rfl; have hfz20_0 := blk_frozen BK297.out 0; have hfz20_1 := blk_frozen BK297.out 1) | ((with_reducible refine gate_callee (f := 19) rfl ?_); refine goesL_ (some 30) rfl rfl Tryd.func19 (by kernel_rfl) rfl #[.string a1] rfl (by (try simp only [List.map_toArray, List.map_cons, List.map_nil]); first | done | rfl | (simp only [List.length_drop, List.length_take]; rfl)) ?_; (with_reducible refine (soffitref01_Parse.calls k a1 t298 t299 t300 _ A6.out).mono ?_); rintro e w21 ⟨rfl, hb⟩; refine ⟨_, rfl, ?_⟩; have n0_ := Aside0.mk (blk_below (g := gb289) (o := .cells #[.int .i64 a0_0, .int .i64 a0_1] 23 (0, 0)) (by (with_reducible repeat (first | refine blk_drewN ?_ _ | refine blk_drew ?_ | refine blk_alloc ?_ _)); refine blk_far ?_ NB289_297.out _; (with_reducible repeat (first | refine blk_drewN ?_ _ | refine blk_drew ?_ | refine blk_alloc ?_ _)); refine blk_far ?_ NB289_297.out _; (with_reducible repeat (first | refine blk_drewN ?_ _ | refine blk_drew ?_ | refine blk_alloc ?_ _)); exact BK289.out) hb); have n1_ := Aside0.mk (blk_below (g := gb297) (o := .cells #[.int .i64 t294, .int .i64 t295] 23 (0, 0)) (by (with_reducible repeat (first | refine blk_drewN ?_ _ | refine blk_drew ?_ | refine blk_alloc ?_ _)); refine blk_put (cs := #[.int .i64 t294, .int .i64 0]) ?_ 1 _ rfl; (with_reducible repeat (first | refine blk_drewN ?_ _ | refine blk_drew ?_ | refine blk_alloc ?_ _)); refine blk_put (cs := #[.int .i64 0, .int .i64 0]) ?_ 0 _ rfl; (with_reducible repeat (first | refine blk_drewN ?_ _ | refine blk_drew ?_ | refine blk_alloc ?_ _)); exact BK297.out) hb); have n2_ := Aside0.mk (below_step (by repeat (first | (with_reducible first | exact HB.out | apply below_alloc | apply pw_below_drewN | apply below_drew1 | refine below_set ?_ GE289.out | refine below_set ?_ GE297.out) | exact HB.out)) hb); clear BK289; clear BK297; clear HB; have BK289 := n0_; have BK297 := n1_; have HB := n2_; clear n0_ n1_ n2_; (try clear hb); (try clear hb2); (try clear hk); (try clear hi)) | ((with_reducible refine gate_dst (N := 11) rfl ?_); refine box_event ?hg (N := 11) ?hd (cs := #[.int .i64 0, .int .i64 0]) (t := 23) ?hr ?_; (case hd => rfl); (case hg => rfl); (case hr => first | (go_simp; done) | (go_simp; rfl)); intro gb301 hg w22 hbox hb; have n0_ := Aside0.mk (blk_below (g := gb289) (o := .cells #[.int .i64 a0_0, .int .i64 a0_1] 23 (0, 0)) (by (with_reducible repeat (first | refine blk_drewN ?_ _ | refine blk_drew ?_ | refine blk_alloc ?_ _)); exact BK289.out) hb); have n1_ := Aside0.mk (blk_below (g := gb297) (o := .cells #[.int .i64 t294, .int .i64 t295] 23 (0, 0)) (by (with_reducible repeat (first | refine blk_drewN ?_ _ | refine blk_drew ?_ | refine blk_alloc ?_ _)); exact BK297.out) hb); have n2_ := Aside0.mk (below_step (by repeat (first | (with_reducible first | exact HB.out | apply below_alloc | apply pw_below_drewN | apply below_drew1 | refine below_set ?_ GE289.out | refine below_set ?_ GE297.out) | exact HB.out)) hb); have n3_ := Aside0.mk (hbox); have n4_ := Aside0.mk ((by rw [hg]; exact (below_size (by repeat (first | (with_reducible first | exact HB.out | apply below_alloc | apply pw_below_drewN | apply below_drew1 | refine below_set ?_ GE289.out | refine below_set ?_ GE297.out) | exact HB.out))) : w.heap.size ≤ gb301)); have n5_ := Aside0.mk ((by rw [hg]; exact (below_size (by repeat (first | (with_reducible first | exact HB.out | apply below_alloc | apply pw_below_drewN | apply below_drew1 | refine below_set ?_ GE289.out | refine below_set ?_ GE297.out) | exact HB.out))) : w.heap.size ≤ gb301)); have n6_ := Aside0.mk ((by rw [hg]; exact Nat.ne_of_lt (blk_lt (g := gb289) (o := .cells #[.int .i64 a0_0, .int .i64 a0_1] 23 (0, 0)) (by (with_reducible repeat (first | refine blk_drewN ?_ _ | refine blk_drew ?_ | refine blk_alloc ?_ _)); exact BK289.out)) : gb289 ≠ gb301)); have n7_ := Aside0.mk ((by rw [hg]; exact Nat.ne_of_gt (blk_lt (g := gb289) (o := .cells #[.int .i64 a0_0, .int .i64 a0_1] 23 (0, 0)) (by (with_reducible repeat (first | refine blk_drewN ?_ _ | refine blk_drew ?_ | refine blk_alloc ?_ _)); exact BK289.out)) : gb301 ≠ gb289)); have n8_ := Aside0.mk ((by rw [hg]; exact Nat.ne_of_lt (blk_lt (g := gb297) (o := .cells #[.int .i64 t294, .int .i64 t295] 23 (0, 0)) (by (with_reducible repeat (first | refine blk_drewN ?_ _ | refine blk_drew ?_ | refine blk_alloc ?_ _)); exact BK297.out)) : gb297 ≠ gb301)); have n9_ := Aside0.mk ((by rw [hg]; exact Nat.ne_of_gt (blk_lt (g := gb297) (o := .cells #[.int .i64 t294, .int .i64 t295] 23 (0, 0)) (by (with_reducible repeat (first | refine blk_drewN ?_ _ | refine blk_drew ?_ | refine blk_alloc ?_ _)); exact BK297.out)) : gb301 ≠ gb297)); clear BK289; clear BK297; clear HB; have BK289 := n0_; have BK297 := n1_; have HB := n2_; have BK301 := n3_; have GW301 := n4_; have GE301 := n5_; have NB289_301 := n6_; have NB301_289 := n7_; have NB297_301 := n8_; have NB301_297 := n9_; clear n0_ n1_ n2_ n3_ n4_ n5_ n6_ n7_ n8_ n9_; clear hb hbox hg; have hnb23 := NB301_289.out; have hnc23 := NB289_301.out; have hnb24 := NB301_297.out; have hnc24 := NB297_301.out; have hcz25_0 : w22.cell? ⟨gb301, 0, none⟩ = some (.int .i64 0) := (blk_cell BK301.out 0).trans rfl; have hcz25_1 : w22.cell? ⟨gb301, 1, none⟩ = some (.int .i64 0) := (blk_cell BK301.out 1).trans rfl; have hfz25_0 := blk_frozen BK301.out 0; have hfz25_1 := blk_frozen BK301.out 1) | ((with_reducible refine gate_callee (f := 11) rfl ?_); refine goesL_ (some 33) rfl rfl Tryd.func11 (by kernel_rfl) rfl #[] rfl (by (try simp only [List.map_toArray, List.map_cons, List.map_nil]); first | done | rfl | (simp only [List.length_drop, List.length_take]; rfl)) ?_; (with_reducible refine (soffitlaw01_awake.calls k  true _ ?side1 A7.out).mono ?_); (case side1 => exact tabs_of HT.out (by repeat (first | (with_reducible first | exact HB.out | apply below_alloc | apply pw_below_drewN | apply below_drew1 | refine below_set ?_ GE289.out | refine below_set ?_ GE297.out | refine below_set ?_ GE301.out) | exact HB.out))); rintro e w26 ⟨rfl, hb⟩; refine ⟨_, rfl, ?_⟩; have n0_ := Aside0.mk (blk_below (g := gb289) (o := .cells #[.int .i64 a0_0, .int .i64 a0_1] 23 (0, 0)) (by (with_reducible repeat (first | refine blk_drewN ?_ _ | refine blk_drew ?_ | refine blk_alloc ?_ _)); refine blk_far ?_ NB289_301.out _; (with_reducible repeat (first | refine blk_drewN ?_ _ | refine blk_drew ?_ | refine blk_alloc ?_ _)); refine blk_far ?_ NB289_301.out _; (with_reducible repeat (first | refine blk_drewN ?_ _ | refine blk_drew ?_ | refine blk_alloc ?_ _)); exact BK289.out) hb); have n1_ := Aside0.mk (blk_below (g := gb297) (o := .cells #[.int .i64 t294, .int .i64 t295] 23 (0, 0)) (by (with_reducible repeat (first | refine blk_drewN ?_ _ | refine blk_drew ?_ | refine blk_alloc ?_ _)); refine blk_far ?_ NB297_301.out _; (with_reducible repeat (first | refine blk_drewN ?_ _ | refine blk_drew ?_ | refine blk_alloc ?_ _)); refine blk_far ?_ NB297_301.out _; (with_reducible repeat (first | refine blk_drewN ?_ _ | refine blk_drew ?_ | refine blk_alloc ?_ _)); exact BK297.out) hb); have n2_ := Aside0.mk (blk_below (g := gb301) (o := .cells #[.int .i64 t298, .int .i64 t299] 23 (0, 0)) (by (with_reducible repeat (first | refine blk_drewN ?_ _ | refine blk_drew ?_ | refine blk_alloc ?_ _)); refine blk_put (cs := #[.int .i64 t298, .int .i64 0]) ?_ 1 _ rfl; (with_reducible repeat (first | refine blk_drewN ?_ _ | refine blk_drew ?_ | refine blk_alloc ?_ _)); refine blk_put (cs := #[.int .i64 0, .int .i64 0]) ?_ 0 _ rfl; (with_reducible repeat (first | refine blk_drewN ?_ _ | refine blk_drew ?_ | refine blk_alloc ?_ _)); exact BK301.out) hb); have n3_ := Aside0.mk (below_step (by repeat (first | (with_reducible first | exact HB.out | apply below_alloc | apply pw_below_drewN | apply below_drew1 | refine below_set ?_ GE289.out | refine below_set ?_ GE297.out | refine below_set ?_ GE301.out) | exact HB.out)) hb); clear BK289; clear BK297; clear BK301; clear HB; have BK289 := n0_; have BK297 := n1_; have BK301 := n2_; have HB := n3_; clear n0_ n1_ n2_ n3_; (try clear hb); (try clear hb2); (try clear hk); (try clear hi); have hcz27_0 : w26.cell? ⟨gb297, 0, none⟩ = some (.int .i64 t294) := (blk_cell BK297.out 0).trans rfl; have hcz27_1 : w26.cell? ⟨gb297, 1, none⟩ = some (.int .i64 t295) := (blk_cell BK297.out 1).trans rfl; have hfz27_0 := blk_frozen BK297.out 0; have hfz27_1 := blk_frozen BK297.out 1; have hcz28_0 : w26.cell? ⟨gb301, 0, none⟩ = some (.int .i64 t298) := (blk_cell BK301.out 0).trans rfl; have hcz28_1 : w26.cell? ⟨gb301, 1, none⟩ = some (.int .i64 t299) := (blk_cell BK301.out 1).trans rfl; have hfz28_0 := blk_frozen BK301.out 0; have hfz28_1 := blk_frozen BK301.out 1))
          go_ret
          exact ⟨by first | rfl | (simp [errW_none, errW_some] <;> rfl) | (simp [*, errW_none, errW_some] <;> rfl), by repeat (first | (with_reducible first | exact HB.out | apply below_alloc | apply pw_below_drewN | apply below_drew1 | refine below_set ?_ GE289.out | refine below_set ?_ GE297.out | refine below_set ?_ GE301.out) | exact HB.out)⟩
        · rw [if_neg c11] at H
          have c11b0 : (t294 == t298 && (t295 == t299)) = false := by simpa using c11
          (try (have c11b1 : decide (t294 = t298 && (t295 == t299)) = false := by simpa using c11))
          (try (have c11b2 : (t294 == t298 && (t295 == t299)) = false := by simpa using c11))
          (try (have c11b3 : ¬ (t294 = t298 && (t295 == t299)) := by simpa using c11))
          clear c11
          exact absurd HR.out (by rw [← Option.some.inj H]; simp)
      · rw [if_neg c10] at H
        have c10b0 : (t291 == t293) = false := beq_eq_false_iff_ne.mpr c10
        have c10b1 : (t291 != t293) = true := bne_iff_ne.mpr c10
        exact absurd HR.out (by rw [← Option.some.inj H]; simp)
    · rw [if_neg c9] at H
      have c9b0 : (t290.toList == t292.toList) = false := beq_eq_false_iff_ne.mpr c9
      have c9b1 : (t290.toList != t292.toList) = true := bne_iff_ne.mpr c9
      exact absurd HR.out (by rw [← Option.some.inj H]; simp)
  · replace c8 := Bool.eq_false_iff.mpr c8
    subst c8
    have H1 : (some false) = some r := by rw [if_neg (show ¬ (false = true) by decide)] at H; exact H
    clear H
    have H := H1
    clear H1
    exact absurd HR.out (by rw [← Option.some.inj H]; simp)
def deci_units.f (k : Nat) (a0_0 : Int) (a0_1 : Int) : Option (Int) := (deci_power.f k (wrap64 (6 - a0_1))).bind fun t304 => (some (wrap64 (a0_0 * (wrap64 (t304)))))
theorem deci_units.mono : ∀ a0 a1 k, LeO (deci_units.f k a0 a1) (deci_units.f (k + 1) a0 a1) := by
  intro a0 a1 k
  unfold deci_units.f
  repeat' first
      | (with_reducible exact deci_power.mono _ _)
      | (with_reducible exact LeO.refl _)
      | (with_reducible exact LeO.none _)
      | (with_reducible refine LeO.ite ?_ ?_)
      | (with_reducible refine LeO.bind ?_ (fun _ => ?_))
      | exact deci_power.mono _ _
      | exact LeO.none _
      | refine LeO.ite ?_ ?_
      | refine LeO.bind ?_ (fun _ => ?_)
set_option maxHeartbeats 8000000 in
set_option maxRecDepth 100000 in
theorem deci_units.calls (k : Nat) (a0_0 : Int) (a0_1 : Int) (r : Int) (w : World) (h : deci_units.f k a0_0 a0_1 = some r) :
    Calls Tryd.prog 42 #[.agg #[.int .i64 a0_0, .int .i64 a0_1]] w fun e w' => e = .returned (.int .i64 r) ∧ Below w.heap.size w w' := by
  have hu23 := Tryd.underlying23
  have HB := Aside0.mk (Below.refl w.heap.size w)
  have H : ((deci_power.f k (wrap64 (6 - a0_1))).bind fun t304 => (some (wrap64 (a0_0 * (wrap64 (t304)))))) = some r := h
  clear h
  replace H := Option.bind_eq_some_iff.mp H
  obtain ⟨t304, A20, H⟩ := H
  replace H : (some (wrap64 (a0_0 * (wrap64 (t304))))) = some r := H
  have A2 := Aside0.mk A20
  clear A20
  obtain rfl := Option.some.inj H
  go_enter Tryd.func42, Tryd.ntmps42
  go_wp2_with (first | ((with_reducible refine gate_dst (N := 1) rfl ?_); refine box_event ?hg (N := 1) ?hd (cs := #[.int .i64 a0_0, .int .i64 a0_1]) (t := 23) ?hr ?_; (case hd => rfl); (case hg => rfl); (case hr => first | (go_simp; done) | (go_simp; rfl)); intro gb303 hg w3 hbox hb; have n0_ := Aside0.mk (below_step (by repeat (first | (with_reducible first | exact HB.out | apply below_alloc | apply pw_below_drewN | apply below_drew1) | exact HB.out)) hb); have n1_ := Aside0.mk (hbox); have n2_ := Aside0.mk ((by rw [hg]; exact (below_size (by repeat (first | (with_reducible first | exact HB.out | apply below_alloc | apply pw_below_drewN | apply below_drew1) | exact HB.out))) : w.heap.size ≤ gb303)); have n3_ := Aside0.mk ((by rw [hg]; exact (below_size (by repeat (first | (with_reducible first | exact HB.out | apply below_alloc | apply pw_below_drewN | apply below_drew1) | exact HB.out))) : w.heap.size ≤ gb303)); clear HB; have HB := n0_; have BK303 := n1_; have GW303 := n2_; have GE303 := n3_; clear n0_ n1_ n2_ n3_; clear hb hbox hg; have hcz4_0 : w3.cell? ⟨gb303, 0, none⟩ = some (.int .i64 a0_0) := (blk_cell BK303.out 0).trans rfl; have hcz4_1 : w3.cell? ⟨gb303, 1, none⟩ = some (.int .i64 a0_1) := (blk_cell BK303.out 1).trans rfl; have hfz4_0 := blk_frozen BK303.out 0; have hfz4_1 := blk_frozen BK303.out 1) | (go_at_call 30; (with_reducible refine (deci_power.calls k (wrap64 (6 - a0_1)) t304 _ A2.out).mono ?_); rintro e w' ⟨rfl, ⟨nd, rfl⟩⟩; (try first | exact ⟨rfl, _, World.drewN_drewN _ _ _⟩ | exact ⟨rfl, _, Eq.trans (World.drewN_drewN _ _ _) (congrArg (World.drewN _) (Nat.add_assoc _ _ _))⟩)))
  repeat (go_quiet (first | ((with_reducible refine gate_dst (N := 1) rfl ?_); refine box_event ?hg (N := 1) ?hd (cs := #[.int .i64 a0_0, .int .i64 a0_1]) (t := 23) ?hr ?_; (case hd => rfl); (case hg => rfl); (case hr => first | (go_simp; done) | (go_simp; rfl)); intro gb303 hg w3 hbox hb; have n0_ := Aside0.mk (below_step (by repeat (first | (with_reducible first | exact HB.out | apply below_alloc | apply pw_below_drewN | apply below_drew1) | exact HB.out)) hb); have n1_ := Aside0.mk (hbox); have n2_ := Aside0.mk ((by rw [hg]; exact (below_size (by repeat (first | (with_reducible first | exact HB.out | apply below_alloc | apply pw_below_drewN | apply below_drew1) | exact HB.out))) : w.heap.size ≤ gb303)); have n3_ := Aside0.mk ((by rw [hg]; exact (below_size (by repeat (first | (with_reducible first | exact HB.out | apply below_alloc | apply pw_below_drewN | apply below_drew1) | exact HB.out))) : w.heap.size ≤ gb303)); clear HB; have HB := n0_; have BK303 := n1_; have GW303 := n2_; have GE303 := n3_; clear n0_ n1_ n2_ n3_; clear hb hbox hg; have hcz4_0 : w3.cell? ⟨gb303, 0, none⟩ = some (.int .i64 a0_0) := (blk_cell BK303.out 0).trans rfl; have hcz4_1 : w3.cell? ⟨gb303, 1, none⟩ = some (.int .i64 a0_1) := (blk_cell BK303.out 1).trans rfl; have hfz4_0 := blk_frozen BK303.out 0; have hfz4_1 := blk_frozen BK303.out 1) | (go_at_call 30; (with_reducible refine (deci_power.calls k (wrap64 (6 - a0_1)) t304 _ A2.out).mono ?_); rintro e w' ⟨rfl, ⟨nd, rfl⟩⟩; (try first | exact ⟨rfl, _, World.drewN_drewN _ _ _⟩ | exact ⟨rfl, _, Eq.trans (World.drewN_drewN _ _ _) (congrArg (World.drewN _) (Nat.add_assoc _ _ _))⟩))); try go_wp2_with (first | ((with_reducible refine gate_dst (N := 1) rfl ?_); refine box_event ?hg (N := 1) ?hd (cs := #[.int .i64 a0_0, .int .i64 a0_1]) (t := 23) ?hr ?_; (case hd => rfl); (case hg => rfl); (case hr => first | (go_simp; done) | (go_simp; rfl)); intro gb303 hg w3 hbox hb; have n0_ := Aside0.mk (below_step (by repeat (first | (with_reducible first | exact HB.out | apply below_alloc | apply pw_below_drewN | apply below_drew1) | exact HB.out)) hb); have n1_ := Aside0.mk (hbox); have n2_ := Aside0.mk ((by rw [hg]; exact (below_size (by repeat (first | (with_reducible first | exact HB.out | apply below_alloc | apply pw_below_drewN | apply below_drew1) | exact HB.out))) : w.heap.size ≤ gb303)); have n3_ := Aside0.mk ((by rw [hg]; exact (below_size (by repeat (first | (with_reducible first | exact HB.out | apply below_alloc | apply pw_below_drewN | apply below_drew1) | exact HB.out))) : w.heap.size ≤ gb303)); clear HB; have HB := n0_; have BK303 := n1_; have GW303 := n2_; have GE303 := n3_; clear n0_ n1_ n2_ n3_; clear hb hbox hg; have hcz4_0 : w3.cell? ⟨gb303, 0, none⟩ = some (.int .i64 a0_0) := (blk_cell BK303.out 0).trans rfl; have hcz4_1 : w3.cell? ⟨gb303, 1, none⟩ = some (.int .i64 a0_1) := (blk_cell BK303.out 1).trans rfl; have hfz4_0 := blk_frozen BK303.out 0; have hfz4_1 := blk_frozen BK303.out 1) | (go_at_call 30; (with_reducible refine (deci_power.calls k (wrap64 (6 - a0_1)) t304 _ A2.out).mono ?_); rintro e w' ⟨rfl, ⟨nd, rfl⟩⟩; (try first | exact ⟨rfl, _, World.drewN_drewN _ _ _⟩ | exact ⟨rfl, _, Eq.trans (World.drewN_drewN _ _ _) (congrArg (World.drewN _) (Nat.add_assoc _ _ _))⟩))))
  go_ret
  exact ⟨by first | rfl | (simp [errW_none, errW_some] <;> rfl) | (simp [*, errW_none, errW_some] <;> rfl), by repeat (first | (with_reducible first | exact HB.out | apply below_alloc | apply pw_below_drewN | apply below_drew1 | refine below_set ?_ GE303.out) | exact HB.out)⟩
end Go.Proofs.YtgkemhgihbfmmaaDoor.PA
end
section
namespace Go.Proofs.YtgkemhgihbfmmaaDoor.PA
open Go.RowKit Go.Proofs.YtgkemhgihbfmmaaDoorW.PrintWords Go.Proofs.YtgkemhgihbfmmaaDoorW.PrintLast Go.Proofs.YtgkemhgihbfmmaaDoorW.PrintMore
attribute [local go_sem] max2_int min2_int max_two min_two max_three min_three max_four min_four
set_option linter.unusedVariables false
set_option linter.unusedSimpArgs false
def deci_At.j0 : Nat → Int → Bool → Int → Int → Option (Int × Bool × Int)
  | 0, _, _, _, _ => none
  | k + 1, x1, x15, x306000, x306001 => if x15 = true then (some (0, false, 1)) else ((deci_all.f k (([(⟨x306000, x306001⟩ : S23)] : List (S23)))).bind fun t309 => (if t309 = 0 then ((deci_power.f k (wrap64 (6 - x1))).bind fun t310 => ((deci_units.f k x306000 x306001).bind fun t311 => (if (wrap64 (t310)) = 0 then (none) else ((deci_units.f k x306000 x306001).bind fun t312 => (if (Int.tmod t312 (wrap64 (t310))) < 0 then ((deci_units.f k x306000 x306001).bind fun t313 => (some (wrap64 ((wrap64 (Int.tdiv t311 (wrap64 (t310)))) - 1), ((Int.tmod t313 (wrap64 (t310))) == 0), 0))) else ((deci_units.f k x306000 x306001).bind fun t314 => (some (wrap64 (Int.tdiv t311 (wrap64 (t310))), ((Int.tmod t314 (wrap64 (t310))) == 0), 0)))))))) else (some (0, false, t309))))
def deci_At.f (k : Nat) (a0_0 : Int) (a0_1 : Int) (a1 : Int) : Option (Int × Bool × Int) := if a1 < 0 then (deci_At.j0 k a1 true a0_0 a0_1) else (deci_At.j0 k a1 (decide (a1 > 6)) a0_0 a0_1)
theorem deci_At.mono_l : ∀ k, (∀ y0 y1 y2 y3, LeO (deci_At.j0 k y0 y1 y2 y3) (deci_At.j0 (k + 1) y0 y1 y2 y3))
  | 0 => fun _ _ _ _ r h => by simp [deci_At.j0] at h
  | k + 1 => by
    have ih0 := deci_At.mono_l k
    · intro y0 y1 y2 y3
      unfold deci_At.j0
      repeat' first
      | (with_reducible exact ih0 _ _ _ _)
      | (with_reducible exact deci_all.mono _ _)
      | (with_reducible exact deci_power.mono _ _)
      | (with_reducible exact deci_units.mono _ _ _)
      | (with_reducible exact LeO.refl _)
      | (with_reducible exact LeO.none _)
      | (with_reducible refine LeO.ite ?_ ?_)
      | (with_reducible refine LeO.bind ?_ (fun _ => ?_))
      | exact ih0 _ _ _ _
      | exact deci_all.mono _ _
      | exact deci_power.mono _ _
      | exact deci_units.mono _ _ _
      | exact LeO.none _
      | refine LeO.ite ?_ ?_
      | refine LeO.bind ?_ (fun _ => ?_)
theorem deci_At.mono : ∀ a0 a1 a2 k, LeO (deci_At.f k a0 a1 a2) (deci_At.f (k + 1) a0 a1 a2) := by
  intro a0 a1 a2 k
  have ih0 := deci_At.mono_l k
  unfold deci_At.f
  repeat' first
      | (with_reducible exact ih0 _ _ _ _)
      | (with_reducible exact deci_all.mono _ _)
      | (with_reducible exact deci_power.mono _ _)
      | (with_reducible exact deci_units.mono _ _ _)
      | (with_reducible exact LeO.refl _)
      | (with_reducible exact LeO.none _)
      | (with_reducible refine LeO.ite ?_ ?_)
      | (with_reducible refine LeO.bind ?_ (fun _ => ?_))
      | exact ih0 _ _ _ _
      | exact deci_all.mono _ _
      | exact deci_power.mono _ _
      | exact deci_units.mono _ _ _
      | exact LeO.none _
      | refine LeO.ite ?_ ?_
      | refine LeO.bind ?_ (fun _ => ?_)
def deci_At.T11 : Bool × List (List Nat × List Nat) := (true, [([], []), ([], []), ([1], [1]), ([], []), ([2, 3], [2, 3]), ([4], [4]), ([0, 2, 0], [0]), ([5, 6, 0, 1, 2, 3, 4, 5, 6], [5]), ([7, 0, 1, 2, 3, 4, 5, 6, 7], [])])
def deci_At.B11 : List Nat := [0, 0, 2, 0, 14, 30, 7, 127, 255]
theorem deci_At.tab11 : rtab .any (opsOf Tryd.f20 11) = deci_At.T11 := by kernel_rfl
theorem deci_At.bits11 : waitsOk deci_At.T11.2 deci_At.B11 = true := by kernel_rfl
set_option maxHeartbeats 8000000 in
set_option maxRecDepth 100000 in
theorem deci_At.calls (k : Nat) (a0_0 : Int) (a0_1 : Int) (a1 : Int) (r1 : Int) (r2 : Bool) (r3 : Int) (w : World) (h : deci_At.f k a0_0 a0_1 a1 = some (r1, r2, r3)) :
    Calls Tryd.prog 20 #[.agg #[.int .i64 a0_0, .int .i64 a0_1], .int .i64 a1] w fun e w' => e = .returned (.tuple #[.int .i64 r1, .bool r2, .int .i64 r3]) ∧ Below w.heap.size w w' := by
  have hu23 := Tryd.underlying23
  have HB := Aside0.mk (Below.refl w.heap.size w)
  have H : (if a1 < 0 then (deci_At.j0 k a1 true a0_0 a0_1) else (deci_At.j0 k a1 (decide (a1 > 6)) a0_0 a0_1)) = some (r1, r2, r3) := h
  clear h
  have HC3 := Aside0.mk H
  clear H
  go_enter Tryd.func20, Tryd.ntmps20
  go_upto_region 1 with (first | ((with_reducible refine gate_dst (N := 2) rfl ?_); refine box_event ?hg (N := 2) ?hd (cs := #[.int .i64 a0_0, .int .i64 a0_1]) (t := 23) ?hr ?_; (case hd => rfl); (case hg => rfl); (case hr => first | (go_simp; done) | (go_simp; rfl)); intro gb305 hg w4 hbox hb; have n0_ := Aside0.mk (below_step (by repeat (first | (with_reducible first | exact HB.out | apply below_alloc | apply pw_below_drewN | apply below_drew1) | exact HB.out)) hb); have n1_ := Aside0.mk (hbox); have n2_ := Aside0.mk ((by rw [hg]; exact (below_size (by repeat (first | (with_reducible first | exact HB.out | apply below_alloc | apply pw_below_drewN | apply below_drew1) | exact HB.out))) : w.heap.size ≤ gb305)); have n3_ := Aside0.mk ((by rw [hg]; exact (below_size (by repeat (first | (with_reducible first | exact HB.out | apply below_alloc | apply pw_below_drewN | apply below_drew1) | exact HB.out))) : w.heap.size ≤ gb305)); clear HB; have HB := n0_; have BK305 := n1_; have GW305 := n2_; have GE305 := n3_; clear n0_ n1_ n2_ n3_; clear hb hbox hg))
  (try simp only [Act.put, List.setIfInBounds_toArray, List.set_cons_zero, List.set_cons_succ])
  go_cut [15] (fun v15 wc => ∃ (kq : Nat) (x15_2 : Bool), v15 = .bool x15_2 ∧ Aside0 (deci_At.j0 kq a1 x15_2 a0_0 a0_1 = some (r1, r2, r3)) ∧ Aside0 (kq ≤ k) ∧ Aside0 (wc.heap[gb305]? = some (.cells #[.int .i64 a0_0, .int .i64 a0_1] 23 (0, 0))) ∧ Aside0 (Below w.heap.size w wc))
  case first =>
    have H := HC3.out
    clear HC3
    by_cases c5 : a1 < 0
    · rw [if_pos c5] at H
      have c5b0 : decide (a1 < 0) = true := decide_eq_true c5
      clear c5
      (first | rw [c5b0] | (simp only [i64_w, i32_w]; rw [c5b0]) | skip)
      have H' := Aside0.mk H
      clear H
      go_wp2
      go_meet
      case rel => exact ⟨_, (true), (by first | rfl | (simp; done) | (simp [*]; done)), H', ⟨by first | omega | exact Nat.le_refl _⟩, ⟨by (with_reducible repeat (first | refine blk_drewN ?_ _ | refine blk_drew ?_ | refine blk_alloc ?_ _)); exact BK305.out⟩, ⟨by repeat (first | (with_reducible first | exact HB.out | apply below_alloc | apply pw_below_drewN | apply below_drew1 | refine below_set ?_ GE305.out) | exact HB.out)⟩⟩
    · rw [if_neg c5] at H
      have c5b0 : decide (a1 < 0) = false := decide_eq_false c5
      clear c5
      (first | rw [c5b0] | (simp only [i64_w, i32_w]; rw [c5b0]) | skip)
      have H' := Aside0.mk H
      clear H
      go_wp2
      go_meet
      case rel => exact ⟨_, (decide (a1 > 6)), (by first | rfl | (simp; done) | (simp [*]; done)), H', ⟨by first | omega | exact Nat.le_refl _⟩, ⟨by (with_reducible repeat (first | refine blk_drewN ?_ _ | refine blk_drew ?_ | refine blk_alloc ?_ _)); exact BK305.out⟩, ⟨by repeat (first | (with_reducible first | exact HB.out | apply below_alloc | apply pw_below_drewN | apply below_drew1 | refine below_set ?_ GE305.out) | exact HB.out)⟩⟩
  case rest =>
    clear HC3
    try clear c2
    try clear p2
    try clear c5
    try clear c5b0
    obtain ⟨kq, x15_2, rfl, HA, HJ2, BK305, HB⟩ := hcut
    cases kq with
    | zero => exact absurd HA.out (by simp [deci_At.j0])
    | succ kj2 =>
      have H := HA.out
      clear HA
      simp only [deci_At.j0] at H
      by_cases c6 : x15_2 = true
      · subst c6
        have H1 : (some (0, false, 1)) = some (r1, r2, r3) := by rw [if_pos rfl] at H; exact H
        clear H
        have H := H1
        clear H1
        simp only [Option.some.injEq, Prod.mk.injEq] at H
        obtain ⟨rfl, rfl, rfl⟩ := H
        go_wp2
        go_ret3
        exact ⟨by first | rfl | (simp [errW_none, errW_some] <;> rfl) | (simp [*, errW_none, errW_some] <;> rfl), by repeat (first | (with_reducible first | exact HB.out | apply below_alloc | apply pw_below_drewN | apply below_drew1 | refine below_set ?_ GE305.out) | exact HB.out)⟩
      · replace c6 := Bool.eq_false_iff.mpr c6
        subst c6
        have H1 : ((deci_all.f kj2 (([(⟨a0_0, a0_1⟩ : S23)] : List (S23)))).bind fun t309 => (if t309 = 0 then ((deci_power.f kj2 (wrap64 (6 - a1))).bind fun t310 => ((deci_units.f kj2 a0_0 a0_1).bind fun t311 => (if (wrap64 (t310)) = 0 then (none) else ((deci_units.f kj2 a0_0 a0_1).bind fun t312 => (if (Int.tmod t312 (wrap64 (t310))) < 0 then ((deci_units.f kj2 a0_0 a0_1).bind fun t313 => (some (wrap64 ((wrap64 (Int.tdiv t311 (wrap64 (t310)))) - 1), ((Int.tmod t313 (wrap64 (t310))) == 0), 0))) else ((deci_units.f kj2 a0_0 a0_1).bind fun t314 => (some (wrap64 (Int.tdiv t311 (wrap64 (t310))), ((Int.tmod t314 (wrap64 (t310))) == 0), 0)))))))) else (some (0, false, t309)))) = some (r1, r2, r3) := by rw [if_neg (show ¬ (false = true) by decide)] at H; exact H
        clear H
        have H := H1
        clear H1
        obtain ⟨y306, hy306⟩ : ∃ y_ : List (S23), y_ = (([(⟨a0_0, a0_1⟩ : S23)] : List (S23))) := ⟨_, rfl⟩
        replace H : ((deci_all.f kj2 y306).bind fun t309 => (if t309 = 0 then ((deci_power.f kj2 (wrap64 (6 - a1))).bind fun t310 => ((deci_units.f kj2 a0_0 a0_1).bind fun t311 => (if (wrap64 (t310)) = 0 then (none) else ((deci_units.f kj2 a0_0 a0_1).bind fun t312 => (if (Int.tmod t312 (wrap64 (t310))) < 0 then ((deci_units.f kj2 a0_0 a0_1).bind fun t313 => (some (wrap64 ((wrap64 (Int.tdiv t311 (wrap64 (t310)))) - 1), ((Int.tmod t313 (wrap64 (t310))) == 0), 0))) else ((deci_units.f kj2 a0_0 a0_1).bind fun t314 => (some (wrap64 (Int.tdiv t311 (wrap64 (t310))), ((Int.tmod t314 (wrap64 (t310))) == 0), 0)))))))) else (some (0, false, t309)))) = some (r1, r2, r3) := by first | (rw [hy306]; with_reducible exact H) | (have H2_ := (Option.bind_some _ _).symm.trans H; rw [hy306]; with_reducible exact H2_) | (have H2_ := (Option.bind_some _ _).symm.trans H; with_reducible exact H2_) | with_reducible exact H | (rw [hy306]; exact H) | exact H
        have Ny306 := Aside0.mk hy306
        clear hy306
        replace H := Option.bind_eq_some_iff.mp H
        obtain ⟨t309, A70, H⟩ := H
        replace H : (if t309 = 0 then ((deci_power.f kj2 (wrap64 (6 - a1))).bind fun t310 => ((deci_units.f kj2 a0_0 a0_1).bind fun t311 => (if (wrap64 (t310)) = 0 then (none) else ((deci_units.f kj2 a0_0 a0_1).bind fun t312 => (if (Int.tmod t312 (wrap64 (t310))) < 0 then ((deci_units.f kj2 a0_0 a0_1).bind fun t313 => (some (wrap64 ((wrap64 (Int.tdiv t311 (wrap64 (t310)))) - 1), ((Int.tmod t313 (wrap64 (t310))) == 0), 0))) else ((deci_units.f kj2 a0_0 a0_1).bind fun t314 => (some (wrap64 (Int.tdiv t311 (wrap64 (t310))), ((Int.tmod t314 (wrap64 (t310))) == 0), 0)))))))) else (some (0, false, t309))) = some (r1, r2, r3) := H
        have A7 := Aside0.mk A70
        clear A70
        by_cases c8 : t309 = 0
        · rw [if_pos c8] at H
          have c8b0 : (t309 == 0) = true := beq_iff_eq.mpr c8
          have c8b1 : (t309 != 0) = false := bne_eq_false_iff_eq.mpr c8
          clear c8
          replace H := Option.bind_eq_some_iff.mp H
          obtain ⟨t310, A90, H⟩ := H
          replace H : ((deci_units.f kj2 a0_0 a0_1).bind fun t311 => (if (wrap64 (t310)) = 0 then (none) else ((deci_units.f kj2 a0_0 a0_1).bind fun t312 => (if (Int.tmod t312 (wrap64 (t310))) < 0 then ((deci_units.f kj2 a0_0 a0_1).bind fun t313 => (some (wrap64 ((wrap64 (Int.tdiv t311 (wrap64 (t310)))) - 1), ((Int.tmod t313 (wrap64 (t310))) == 0), 0))) else ((deci_units.f kj2 a0_0 a0_1).bind fun t314 => (some (wrap64 (Int.tdiv t311 (wrap64 (t310))), ((Int.tmod t314 (wrap64 (t310))) == 0), 0))))))) = some (r1, r2, r3) := H
          have A9 := Aside0.mk A90
          clear A90
          replace H := Option.bind_eq_some_iff.mp H
          obtain ⟨t311, A100, H⟩ := H
          replace H : (if (wrap64 (t310)) = 0 then (none) else ((deci_units.f kj2 a0_0 a0_1).bind fun t312 => (if (Int.tmod t312 (wrap64 (t310))) < 0 then ((deci_units.f kj2 a0_0 a0_1).bind fun t313 => (some (wrap64 ((wrap64 (Int.tdiv t311 (wrap64 (t310)))) - 1), ((Int.tmod t313 (wrap64 (t310))) == 0), 0))) else ((deci_units.f kj2 a0_0 a0_1).bind fun t314 => (some (wrap64 (Int.tdiv t311 (wrap64 (t310))), ((Int.tmod t314 (wrap64 (t310))) == 0), 0)))))) = some (r1, r2, r3) := H
          have A10 := Aside0.mk A100
          clear A100
          by_cases c11 : (wrap64 (t310)) = 0
          · rw [if_pos c11] at H
            exact absurd H (by simp)
          · rw [if_neg c11] at H
            have c11b0 : ((wrap64 (t310)) == 0) = false := beq_eq_false_iff_ne.mpr c11
            have c11b1 : ((wrap64 (t310)) != 0) = true := bne_iff_ne.mpr c11
            replace H := Option.bind_eq_some_iff.mp H
            obtain ⟨t312, A120, H⟩ := H
            replace H : (if (Int.tmod t312 (wrap64 (t310))) < 0 then ((deci_units.f kj2 a0_0 a0_1).bind fun t313 => (some (wrap64 ((wrap64 (Int.tdiv t311 (wrap64 (t310)))) - 1), ((Int.tmod t313 (wrap64 (t310))) == 0), 0))) else ((deci_units.f kj2 a0_0 a0_1).bind fun t314 => (some (wrap64 (Int.tdiv t311 (wrap64 (t310))), ((Int.tmod t314 (wrap64 (t310))) == 0), 0)))) = some (r1, r2, r3) := H
            have A12 := Aside0.mk A120
            clear A120
            by_cases c13 : (Int.tmod t312 (wrap64 (t310))) < 0
            · rw [if_pos c13] at H
              have c13b0 : decide ((Int.tmod t312 (wrap64 (t310))) < 0) = true := decide_eq_true c13
              clear c13
              replace H := Option.bind_eq_some_iff.mp H
              obtain ⟨t313, A140, H⟩ := H
              replace H : (some (wrap64 ((wrap64 (Int.tdiv t311 (wrap64 (t310)))) - 1), ((Int.tmod t313 (wrap64 (t310))) == 0), 0)) = some (r1, r2, r3) := H
              have A14 := Aside0.mk A140
              clear A140
              simp only [Option.some.injEq, Prod.mk.injEq] at H
              obtain ⟨rfl, rfl, rfl⟩ := H
              have hcz15_0 : wc.cell? ⟨gb305, 0, none⟩ = some (.int .i64 a0_0) := (blk_cell BK305.out 0).trans rfl
              have hcz15_1 : wc.cell? ⟨gb305, 1, none⟩ = some (.int .i64 a0_1) := (blk_cell BK305.out 1).trans rfl
              have hfz15_0 := blk_frozen BK305.out 0
              have hfz15_1 := blk_frozen BK305.out 1
              try go_wp2_with (first | ((with_reducible refine gate_dst (N := 17) rfl ?_); refine Kd.R_lit k23 _ 23 ?hg (N := 17) ?hd (xs := ([(⟨a0_0, a0_1⟩ : S23)] : List (S23))) (inner := [.int .i64 a0_0, .int .i64 a0_1]) (ok := fun _ => True) (okp := fun _ => True) ?hr ?hp (fun _ hk => hk) trivial (Below.refl _ _) (Nat.le_refl _) (by simp) ?_; (case hd => rfl); (case hg => rfl); (case hr => first | (go_simp; done) | (go_simp; rfl)); (case hp => exact (Reps.c2 (show Kd.M k23 _ _ _ (⟨a0_0, a0_1⟩ : S23) [.int .i64 a0_0, .int .i64 a0_1] from (k23_mkM _ _ _ (⟨a0_0, a0_1⟩ : S23) )) (Reps.none _ _))); intro v307 w16 ho17 hb hg_ hnew_; clear hg_ hnew_; (first | rw [← Ny306.out] at ho17 | (simp only [Int.reduceToNat] at ho17; rw [← Ny306.out] at ho17)); have n0_ := Aside0.mk (Kd.R_lower (Kd.R_newB ho17 (g := gb305) (o := .cells #[.int .i64 a0_0, .int .i64 a0_1] 23 (0, 0)) (by (with_reducible repeat (first | refine blk_drewN ?_ _ | refine blk_drew ?_ | refine blk_alloc ?_ _)); exact BK305.out)) (below_size (by repeat (first | (with_reducible first | exact HB.out | apply below_alloc | apply pw_below_drewN | apply below_drew1 | refine below_set ?_ GE305.out) | exact HB.out)))); have n1_ := Aside0.mk (blk_below (g := gb305) (o := .cells #[.int .i64 a0_0, .int .i64 a0_1] 23 (0, 0)) (by (with_reducible repeat (first | refine blk_drewN ?_ _ | refine blk_drew ?_ | refine blk_alloc ?_ _)); exact BK305.out) hb); have n2_ := Aside0.mk (below_step (by repeat (first | (with_reducible first | exact HB.out | apply below_alloc | apply pw_below_drewN | apply below_drew1 | refine below_set ?_ GE305.out) | exact HB.out)) hb); clear BK305; clear HB; have HO308 := n0_; have BK305 := n1_; have HB := n2_; clear n0_ n1_ n2_; clear hb ho17; obtain ⟨Ao18, co18, eo18⟩ := Kd.R_slice HO308.out; subst eo18) | ((with_reducible refine gate_callee (f := 27) rfl ?_); refine goesL_ (some 18) rfl rfl Tryd.func27 (by kernel_rfl) rfl #[.slice Ao18 y306.length co18] rfl (by (try simp only [List.map_toArray, List.map_cons, List.map_nil]); first | done | rfl | (simp only [List.length_drop, List.length_take]; rfl)) ?_; (with_reducible refine (deci_all.calls kj2 _ _ y306 t309 _ ?side1 ?side2 A7.out).mono ?_); (case side1 => repeat (first | exact (Kd.R_reads' HO308.out).2.2 | (with_reducible refine Kd.C_alloc ?_ _) | (with_reducible refine Kd.C_drewN ?_ _) | (with_reducible refine Kd.C_drew ?_))); (case side2 => exact (Kd.R_reads' HO308.out).2.1); rintro e w19 ⟨rfl, hb⟩; refine ⟨_, rfl, ?_⟩; have n0_ := Aside0.mk (Kd.R_below (by (with_reducible repeat (first | apply Kd.R_alloc | apply Kd.R_drewN | apply Kd.R_drew)); exact HO308.out) hb); have n1_ := Aside0.mk (blk_below (g := gb305) (o := .cells #[.int .i64 a0_0, .int .i64 a0_1] 23 (0, 0)) (by (with_reducible repeat (first | refine blk_drewN ?_ _ | refine blk_drew ?_ | refine blk_alloc ?_ _)); exact BK305.out) hb); have n2_ := Aside0.mk (below_step (by repeat (first | (with_reducible first | exact HB.out | apply below_alloc | apply pw_below_drewN | apply below_drew1 | refine below_set ?_ GE305.out) | exact HB.out)) hb); clear HO308; clear BK305; clear HB; have HO308 := n0_; have BK305 := n1_; have HB := n2_; clear n0_ n1_ n2_; (try clear hb); (try clear hb2); (try clear hk); (try clear hi)) | ((with_reducible refine gate_callee (f := 30) rfl ?_); refine goesL_ (some 24) rfl rfl Tryd.func30 (by kernel_rfl) rfl #[.int .i64 (wrap64 (6 - a1))] rfl (by (try simp only [List.map_toArray, List.map_cons, List.map_nil]); first | done | rfl | (simp only [List.length_drop, List.length_take]; rfl)) ?_; (with_reducible refine (deci_power.calls kj2 (wrap64 (6 - a1)) t310 _ A9.out).mono ?_); rintro e w' ⟨rfl, ⟨nd, rfl⟩⟩; refine ⟨_, rfl, ?_⟩; have hcz20_0 : w19.cell? ⟨gb305, 0, none⟩ = some (.int .i64 a0_0) := (blk_cell BK305.out 0).trans rfl; have hcz20_1 : w19.cell? ⟨gb305, 1, none⟩ = some (.int .i64 a0_1) := (blk_cell BK305.out 1).trans rfl; have hfz20_0 := blk_frozen BK305.out 0; have hfz20_1 := blk_frozen BK305.out 1) | ((with_reducible refine gate_callee (f := 42) rfl ?_); refine goesL_ (some 27) rfl rfl Tryd.func42 (by kernel_rfl) rfl #[.agg #[.int .i64 a0_0, .int .i64 a0_1]] rfl (by (try simp only [List.map_toArray, List.map_cons, List.map_nil]); first | done | rfl | (simp only [List.length_drop, List.length_take]; rfl)) ?_; (with_reducible refine (deci_units.calls kj2 a0_0 a0_1 t311 _ A10.out).mono ?_); rintro e w21 ⟨rfl, hb⟩; refine ⟨_, rfl, ?_⟩; have n0_ := Aside0.mk (Kd.R_below (by (with_reducible repeat (first | apply Kd.R_alloc | apply Kd.R_drewN | apply Kd.R_drew)); exact HO308.out) hb); have n1_ := Aside0.mk (blk_below (g := gb305) (o := .cells #[.int .i64 a0_0, .int .i64 a0_1] 23 (0, 0)) (by (with_reducible repeat (first | refine blk_drewN ?_ _ | refine blk_drew ?_ | refine blk_alloc ?_ _)); exact BK305.out) hb); have n2_ := Aside0.mk (below_step (by repeat (first | (with_reducible first | exact HB.out | apply below_alloc | apply pw_below_drewN | apply below_drew1 | refine below_set ?_ GE305.out) | exact HB.out)) hb); clear HO308; clear BK305; clear HB; have HO308 := n0_; have BK305 := n1_; have HB := n2_; clear n0_ n1_ n2_; (try clear hb); (try clear hb2); (try clear hk); (try clear hi); have hcz22_0 : w21.cell? ⟨gb305, 0, none⟩ = some (.int .i64 a0_0) := (blk_cell BK305.out 0).trans rfl; have hcz22_1 : w21.cell? ⟨gb305, 1, none⟩ = some (.int .i64 a0_1) := (blk_cell BK305.out 1).trans rfl; have hfz22_0 := blk_frozen BK305.out 0; have hfz22_1 := blk_frozen BK305.out 1) | ((with_reducible refine gate_callee (f := 42) rfl ?_); refine goesL_ (some 31) rfl rfl Tryd.func42 (by kernel_rfl) rfl #[.agg #[.int .i64 a0_0, .int .i64 a0_1]] rfl (by (try simp only [List.map_toArray, List.map_cons, List.map_nil]); first | done | rfl | (simp only [List.length_drop, List.length_take]; rfl)) ?_; (with_reducible refine (deci_units.calls kj2 a0_0 a0_1 t312 _ A12.out).mono ?_); rintro e w23 ⟨rfl, hb⟩; refine ⟨_, rfl, ?_⟩; have n0_ := Aside0.mk (Kd.R_below (by (with_reducible repeat (first | apply Kd.R_alloc | apply Kd.R_drewN | apply Kd.R_drew)); exact HO308.out) hb); have n1_ := Aside0.mk (blk_below (g := gb305) (o := .cells #[.int .i64 a0_0, .int .i64 a0_1] 23 (0, 0)) (by (with_reducible repeat (first | refine blk_drewN ?_ _ | refine blk_drew ?_ | refine blk_alloc ?_ _)); exact BK305.out) hb); have n2_ := Aside0.mk (below_step (by repeat (first | (with_reducible first | exact HB.out | apply below_alloc | apply pw_below_drewN | apply below_drew1 | refine below_set ?_ GE305.out) | exact HB.out)) hb); clear HO308; clear BK305; clear HB; have HO308 := n0_; have BK305 := n1_; have HB := n2_; clear n0_ n1_ n2_; (try clear hb); (try clear hb2); (try clear hk); (try clear hi)))
              have n0_ := Aside0.mk (Kd.R_drew HO308.out)
              have n1_ := Aside0.mk (blk_drew BK305.out)
              have n2_ := Aside0.mk (below_drew1 HB.out)
              clear HO308
              clear BK305
              clear HB
              have HO308 := n0_
              have BK305 := n1_
              have HB := n2_
              clear n0_ n1_ n2_
              refine start_ (n := 9) (S := fun w' => w'.cell? ⟨gb305, 0, none⟩ = some (.int .i64 a0_0) ∧ w'.cell? ⟨gb305, 1, none⟩ = some (.int .i64 a0_1)) (ds := []) #[false, false, false, false, false, false, false, false, false] (by kernel_rfl) rfl rfl ⟨(blk_cell BK305.out 0).trans rfl, (blk_cell BK305.out 1).trans rfl⟩ (fun hHeld => ?_); refine with_tabW deci_At.tab11 deci_At.bits11 (fun HT_ HW_ => ?_)
              generalize w23.drew = w24 at HO308 BK305 HB hHeld ⊢
              refine pure_ (i := 0) (N := some 38) (v := ?_) (a' := ?_) #[true, false, false, false, false, false, false, false, false] rfl rfl (any_of HT_.out (by kernel_rfl)) (fun _ _ _ h => h) (Or.inl ⟨by rfl, ?_⟩) ?_ ?_
              rotate_left
              · intro w'
                go_simp
                with_reducible rfl
              rotate_left
              · simp only [Act.put, List.setIfInBounds_toArray, List.set_cons_zero, List.set_cons_succ, i64_w, i32_w]
                rfl
              refine pure_ (i := 3) (N := some 41) (v := ?_) (a' := ?_) #[true, false, false, true, false, false, false, false, false] rfl rfl (any_of HT_.out (by kernel_rfl)) (fun _ _ _ h => h) (Or.inl ⟨by rfl, ?_⟩) ?_ ?_
              rotate_left
              · intro w'
                go_simp
                with_reducible rfl
              rotate_left
              · simp only [Act.put, List.setIfInBounds_toArray, List.set_cons_zero, List.set_cons_succ, i64_w, i32_w]
                rfl
              refine take_ (i := 1) (N := some 39) (v := ?_) (a' := ?_) #[true, true, false, true, false, false, false, false, false] rfl rfl (take_ofW HT_.out HW_.out (by kernel_rfl)) (fun _ _ _ h => h) (Or.inl ⟨by rfl, ?_⟩) hHeld ?_ ?_
              rotate_left
              · rintro w' ⟨s0, s1⟩
                go_simp
                with_reducible rfl
              rotate_left
              · simp only [Act.put, List.setIfInBounds_toArray, List.set_cons_zero, List.set_cons_succ, i64_w, i32_w]
                rfl
              refine one_ (i := 2) (N := some 40) #[true, true, true, true, false, false, false, false, false] rfl rfl (one_of HT_.out (by kernel_rfl)) (by decide) (fun K hK => ?_)
              refine goes_ Tryd.func42 (by kernel_rfl) rfl #[.agg #[.int .i64 a0_0, .int .i64 a0_1]] (by rfl) rfl rfl (by (try simp only [List.map_toArray, List.map_cons, List.map_nil]); first | done | rfl | (simp only [List.length_drop, List.length_take]; rfl)) ?_
              with_reducible refine (deci_units.calls kj2 a0_0 a0_1 t313 _ A14.out).mono ?_
              rintro e w25 ⟨rfl, hb⟩
              refine ⟨_, rfl, ?_⟩
              have n0_ := Aside0.mk (Kd.R_below (by (with_reducible repeat (first | apply Kd.R_alloc | apply Kd.R_drewN | apply Kd.R_drew)); exact HO308.out) hb)
              have n1_ := Aside0.mk (blk_below (g := gb305) (o := .cells #[.int .i64 a0_0, .int .i64 a0_1] 23 (0, 0)) (by (with_reducible repeat (first | refine blk_drewN ?_ _ | refine blk_drew ?_ | refine blk_alloc ?_ _)); exact BK305.out) hb)
              have n2_ := Aside0.mk (below_step (by repeat (first | (with_reducible first | exact HB.out | apply below_alloc | apply pw_below_drewN | apply below_drew1 | refine below_set ?_ GE305.out) | exact HB.out)) hb)
              clear HO308
              clear BK305
              clear HB
              have HO308 := n0_
              have BK305 := n1_
              have HB := n2_
              clear n0_ n1_ n2_
              (try clear hb)
              (try clear hb2)
              (try clear hk)
              (try clear hi)
              refine hK.out _ _ ⟨(blk_cell BK305.out 0).trans rfl, (blk_cell BK305.out 1).trans rfl⟩ (fun hHeld => ?_)
              clear hK K
              refine norm_ (a' := ?_) ?_ ?_
              rotate_left
              · show Act.put _ (some 40) _ = _
                simp only [Act.put, List.setIfInBounds_toArray, List.set_cons_zero, List.set_cons_succ, i64_w, i32_w]
                rfl
              refine pure_ (i := 4) (N := some 42) (v := ?_) (a' := ?_) #[true, true, true, true, true, false, false, false, false] rfl rfl (any_of HT_.out (by kernel_rfl)) (fun _ _ _ h => h) (Or.inl ⟨by rfl, ?_⟩) ?_ ?_
              rotate_left
              · intro w'
                go_simp
                with_reducible rfl
              rotate_left
              · simp only [Act.put, List.setIfInBounds_toArray, List.set_cons_zero, List.set_cons_succ, i64_w, i32_w]
                rfl
              refine pure_ (i := 5) (N := some 43) (v := ?_) (a' := ?_) #[true, true, true, true, true, true, false, false, false] rfl rfl (any_of HT_.out (by kernel_rfl)) (fun _ _ _ h => h) (Or.inl ⟨by rfl, ?_⟩) ?_ ?_
              rotate_left
              · intro w'
                go_simp
                with_reducible rfl
              rotate_left
              · simp only [Act.put, List.setIfInBounds_toArray, List.set_cons_zero, List.set_cons_succ, i64_w, i32_w]
                rfl
              refine pure_ (i := 6) (N := some 4) (v := ?_) (a' := ?_) #[true, true, true, true, true, true, true, false, false] rfl rfl (any_of HT_.out (by kernel_rfl)) (fun _ _ _ h => h) (Or.inl ⟨by rfl, ?_⟩) ?_ ?_
              rotate_left
              · intro w'
                go_simp
                with_reducible rfl
              rotate_left
              · simp only [Act.put, List.setIfInBounds_toArray, List.set_cons_zero, List.set_cons_succ, i64_w, i32_w]
                rfl
              refine pure_ (i := 7) (N := some 5) (v := ?_) (a' := ?_) #[true, true, true, true, true, true, true, true, false] rfl rfl (any_of HT_.out (by kernel_rfl)) (fun _ _ _ h => h) (Or.inl ⟨by rfl, ?_⟩) ?_ ?_
              rotate_left
              · intro w'
                go_simp
                with_reducible rfl
              rotate_left
              · simp only [Act.put, List.setIfInBounds_toArray, List.set_cons_zero, List.set_cons_succ, i64_w, i32_w]
                rfl
              refine pure_ (i := 8) (N := some 6) (v := ?_) (a' := ?_) #[true, true, true, true, true, true, true, true, true] rfl rfl (any_of HT_.out (by kernel_rfl)) (fun _ _ _ h => h) (Or.inl ⟨by rfl, ?_⟩) ?_ ?_
              rotate_left
              · intro w'
                go_simp
                with_reducible rfl
              rotate_left
              · simp only [Act.put, List.setIfInBounds_toArray, List.set_cons_zero, List.set_cons_succ, i64_w, i32_w]
                rfl
              refine done_ (done_of HT_.out (by kernel_rfl)) ?_
              try go_wp2
              go_ret3
              exact ⟨by first | rfl | (simp [errW_none, errW_some] <;> rfl) | (simp [*, errW_none, errW_some] <;> rfl), by repeat (first | (with_reducible first | exact HB.out | apply below_alloc | apply pw_below_drewN | apply below_drew1 | refine below_set ?_ GE305.out) | exact HB.out)⟩
            · rw [if_neg c13] at H
              have c13b0 : decide ((Int.tmod t312 (wrap64 (t310))) < 0) = false := decide_eq_false c13
              clear c13
              replace H := Option.bind_eq_some_iff.mp H
              obtain ⟨t314, A260, H⟩ := H
              replace H : (some (wrap64 (Int.tdiv t311 (wrap64 (t310))), ((Int.tmod t314 (wrap64 (t310))) == 0), 0)) = some (r1, r2, r3) := H
              have A26 := Aside0.mk A260
              clear A260
              simp only [Option.some.injEq, Prod.mk.injEq] at H
              obtain ⟨rfl, rfl, rfl⟩ := H
              have hcz27_0 : wc.cell? ⟨gb305, 0, none⟩ = some (.int .i64 a0_0) := (blk_cell BK305.out 0).trans rfl
              have hcz27_1 : wc.cell? ⟨gb305, 1, none⟩ = some (.int .i64 a0_1) := (blk_cell BK305.out 1).trans rfl
              have hfz27_0 := blk_frozen BK305.out 0
              have hfz27_1 := blk_frozen BK305.out 1
              try go_wp2_with (first | ((with_reducible refine gate_dst (N := 17) rfl ?_); refine Kd.R_lit k23 _ 23 ?hg (N := 17) ?hd (xs := ([(⟨a0_0, a0_1⟩ : S23)] : List (S23))) (inner := [.int .i64 a0_0, .int .i64 a0_1]) (ok := fun _ => True) (okp := fun _ => True) ?hr ?hp (fun _ hk => hk) trivial (Below.refl _ _) (Nat.le_refl _) (by simp) ?_; (case hd => rfl); (case hg => rfl); (case hr => first | (go_simp; done) | (go_simp; rfl)); (case hp => exact (Reps.c2 (show Kd.M k23 _ _ _ (⟨a0_0, a0_1⟩ : S23) [.int .i64 a0_0, .int .i64 a0_1] from (k23_mkM _ _ _ (⟨a0_0, a0_1⟩ : S23) )) (Reps.none _ _))); intro v307 w28 ho29 hb hg_ hnew_; clear hg_ hnew_; (first | rw [← Ny306.out] at ho29 | (simp only [Int.reduceToNat] at ho29; rw [← Ny306.out] at ho29)); have n0_ := Aside0.mk (Kd.R_lower (Kd.R_newB ho29 (g := gb305) (o := .cells #[.int .i64 a0_0, .int .i64 a0_1] 23 (0, 0)) (by (with_reducible repeat (first | refine blk_drewN ?_ _ | refine blk_drew ?_ | refine blk_alloc ?_ _)); exact BK305.out)) (below_size (by repeat (first | (with_reducible first | exact HB.out | apply below_alloc | apply pw_below_drewN | apply below_drew1 | refine below_set ?_ GE305.out) | exact HB.out)))); have n1_ := Aside0.mk (blk_below (g := gb305) (o := .cells #[.int .i64 a0_0, .int .i64 a0_1] 23 (0, 0)) (by (with_reducible repeat (first | refine blk_drewN ?_ _ | refine blk_drew ?_ | refine blk_alloc ?_ _)); exact BK305.out) hb); have n2_ := Aside0.mk (below_step (by repeat (first | (with_reducible first | exact HB.out | apply below_alloc | apply pw_below_drewN | apply below_drew1 | refine below_set ?_ GE305.out) | exact HB.out)) hb); clear BK305; clear HB; have HO308 := n0_; have BK305 := n1_; have HB := n2_; clear n0_ n1_ n2_; clear hb ho29; obtain ⟨Ao30, co30, eo30⟩ := Kd.R_slice HO308.out; subst eo30) | ((with_reducible refine gate_callee (f := 27) rfl ?_); refine goesL_ (some 18) rfl rfl Tryd.func27 (by kernel_rfl) rfl #[.slice Ao30 y306.length co30] rfl (by (try simp only [List.map_toArray, List.map_cons, List.map_nil]); first | done | rfl | (simp only [List.length_drop, List.length_take]; rfl)) ?_; (with_reducible refine (deci_all.calls kj2 _ _ y306 t309 _ ?side1 ?side2 A7.out).mono ?_); (case side1 => repeat (first | exact (Kd.R_reads' HO308.out).2.2 | (with_reducible refine Kd.C_alloc ?_ _) | (with_reducible refine Kd.C_drewN ?_ _) | (with_reducible refine Kd.C_drew ?_))); (case side2 => exact (Kd.R_reads' HO308.out).2.1); rintro e w31 ⟨rfl, hb⟩; refine ⟨_, rfl, ?_⟩; have n0_ := Aside0.mk (Kd.R_below (by (with_reducible repeat (first | apply Kd.R_alloc | apply Kd.R_drewN | apply Kd.R_drew)); exact HO308.out) hb); have n1_ := Aside0.mk (blk_below (g := gb305) (o := .cells #[.int .i64 a0_0, .int .i64 a0_1] 23 (0, 0)) (by (with_reducible repeat (first | refine blk_drewN ?_ _ | refine blk_drew ?_ | refine blk_alloc ?_ _)); exact BK305.out) hb); have n2_ := Aside0.mk (below_step (by repeat (first | (with_reducible first | exact HB.out | apply below_alloc | apply pw_below_drewN | apply below_drew1 | refine below_set ?_ GE305.out) | exact HB.out)) hb); clear HO308; clear BK305; clear HB; have HO308 := n0_; have BK305 := n1_; have HB := n2_; clear n0_ n1_ n2_; (try clear hb); (try clear hb2); (try clear hk); (try clear hi)) | ((with_reducible refine gate_callee (f := 30) rfl ?_); refine goesL_ (some 24) rfl rfl Tryd.func30 (by kernel_rfl) rfl #[.int .i64 (wrap64 (6 - a1))] rfl (by (try simp only [List.map_toArray, List.map_cons, List.map_nil]); first | done | rfl | (simp only [List.length_drop, List.length_take]; rfl)) ?_; (with_reducible refine (deci_power.calls kj2 (wrap64 (6 - a1)) t310 _ A9.out).mono ?_); rintro e w' ⟨rfl, ⟨nd, rfl⟩⟩; refine ⟨_, rfl, ?_⟩; have hcz32_0 : w31.cell? ⟨gb305, 0, none⟩ = some (.int .i64 a0_0) := (blk_cell BK305.out 0).trans rfl; have hcz32_1 : w31.cell? ⟨gb305, 1, none⟩ = some (.int .i64 a0_1) := (blk_cell BK305.out 1).trans rfl; have hfz32_0 := blk_frozen BK305.out 0; have hfz32_1 := blk_frozen BK305.out 1) | ((with_reducible refine gate_callee (f := 42) rfl ?_); refine goesL_ (some 27) rfl rfl Tryd.func42 (by kernel_rfl) rfl #[.agg #[.int .i64 a0_0, .int .i64 a0_1]] rfl (by (try simp only [List.map_toArray, List.map_cons, List.map_nil]); first | done | rfl | (simp only [List.length_drop, List.length_take]; rfl)) ?_; (with_reducible refine (deci_units.calls kj2 a0_0 a0_1 t311 _ A10.out).mono ?_); rintro e w33 ⟨rfl, hb⟩; refine ⟨_, rfl, ?_⟩; have n0_ := Aside0.mk (Kd.R_below (by (with_reducible repeat (first | apply Kd.R_alloc | apply Kd.R_drewN | apply Kd.R_drew)); exact HO308.out) hb); have n1_ := Aside0.mk (blk_below (g := gb305) (o := .cells #[.int .i64 a0_0, .int .i64 a0_1] 23 (0, 0)) (by (with_reducible repeat (first | refine blk_drewN ?_ _ | refine blk_drew ?_ | refine blk_alloc ?_ _)); exact BK305.out) hb); have n2_ := Aside0.mk (below_step (by repeat (first | (with_reducible first | exact HB.out | apply below_alloc | apply pw_below_drewN | apply below_drew1 | refine below_set ?_ GE305.out) | exact HB.out)) hb); clear HO308; clear BK305; clear HB; have HO308 := n0_; have BK305 := n1_; have HB := n2_; clear n0_ n1_ n2_; (try clear hb); (try clear hb2); (try clear hk); (try clear hi); have hcz34_0 : w33.cell? ⟨gb305, 0, none⟩ = some (.int .i64 a0_0) := (blk_cell BK305.out 0).trans rfl; have hcz34_1 : w33.cell? ⟨gb305, 1, none⟩ = some (.int .i64 a0_1) := (blk_cell BK305.out 1).trans rfl; have hfz34_0 := blk_frozen BK305.out 0; have hfz34_1 := blk_frozen BK305.out 1) | ((with_reducible refine gate_callee (f := 42) rfl ?_); refine goesL_ (some 31) rfl rfl Tryd.func42 (by kernel_rfl) rfl #[.agg #[.int .i64 a0_0, .int .i64 a0_1]] rfl (by (try simp only [List.map_toArray, List.map_cons, List.map_nil]); first | done | rfl | (simp only [List.length_drop, List.length_take]; rfl)) ?_; (with_reducible refine (deci_units.calls kj2 a0_0 a0_1 t312 _ A12.out).mono ?_); rintro e w35 ⟨rfl, hb⟩; refine ⟨_, rfl, ?_⟩; have n0_ := Aside0.mk (Kd.R_below (by (with_reducible repeat (first | apply Kd.R_alloc | apply Kd.R_drewN | apply Kd.R_drew)); exact HO308.out) hb); have n1_ := Aside0.mk (blk_below (g := gb305) (o := .cells #[.int .i64 a0_0, .int .i64 a0_1] 23 (0, 0)) (by (with_reducible repeat (first | refine blk_drewN ?_ _ | refine blk_drew ?_ | refine blk_alloc ?_ _)); exact BK305.out) hb); have n2_ := Aside0.mk (below_step (by repeat (first | (with_reducible first | exact HB.out | apply below_alloc | apply pw_below_drewN | apply below_drew1 | refine below_set ?_ GE305.out) | exact HB.out)) hb); clear HO308; clear BK305; clear HB; have HO308 := n0_; have BK305 := n1_; have HB := n2_; clear n0_ n1_ n2_; (try clear hb); (try clear hb2); (try clear hk); (try clear hi)))
              have n0_ := Aside0.mk (Kd.R_drew HO308.out)
              have n1_ := Aside0.mk (blk_drew BK305.out)
              have n2_ := Aside0.mk (below_drew1 HB.out)
              clear HO308
              clear BK305
              clear HB
              have HO308 := n0_
              have BK305 := n1_
              have HB := n2_
              clear n0_ n1_ n2_
              refine start_ (n := 9) (S := fun w' => w'.cell? ⟨gb305, 0, none⟩ = some (.int .i64 a0_0) ∧ w'.cell? ⟨gb305, 1, none⟩ = some (.int .i64 a0_1)) (ds := []) #[false, false, false, false, false, false, false, false, false] (by kernel_rfl) rfl rfl ⟨(blk_cell BK305.out 0).trans rfl, (blk_cell BK305.out 1).trans rfl⟩ (fun hHeld => ?_); refine with_tabW deci_At.tab11 deci_At.bits11 (fun HT_ HW_ => ?_)
              generalize w35.drew = w36 at HO308 BK305 HB hHeld ⊢
              refine pure_ (i := 0) (N := some 38) (v := ?_) (a' := ?_) #[true, false, false, false, false, false, false, false, false] rfl rfl (any_of HT_.out (by kernel_rfl)) (fun _ _ _ h => h) (Or.inl ⟨by rfl, ?_⟩) ?_ ?_
              rotate_left
              · intro w'
                go_simp
                with_reducible rfl
              rotate_left
              · simp only [Act.put, List.setIfInBounds_toArray, List.set_cons_zero, List.set_cons_succ, i64_w, i32_w]
                rfl
              refine pure_ (i := 3) (N := some 41) (v := ?_) (a' := ?_) #[true, false, false, true, false, false, false, false, false] rfl rfl (any_of HT_.out (by kernel_rfl)) (fun _ _ _ h => h) (Or.inl ⟨by rfl, ?_⟩) ?_ ?_
              rotate_left
              · intro w'
                go_simp
                with_reducible rfl
              rotate_left
              · simp only [Act.put, List.setIfInBounds_toArray, List.set_cons_zero, List.set_cons_succ, i64_w, i32_w]
                rfl
              refine take_ (i := 1) (N := some 39) (v := ?_) (a' := ?_) #[true, true, false, true, false, false, false, false, false] rfl rfl (take_ofW HT_.out HW_.out (by kernel_rfl)) (fun _ _ _ h => h) (Or.inl ⟨by rfl, ?_⟩) hHeld ?_ ?_
              rotate_left
              · rintro w' ⟨s0, s1⟩
                go_simp
                with_reducible rfl
              rotate_left
              · simp only [Act.put, List.setIfInBounds_toArray, List.set_cons_zero, List.set_cons_succ, i64_w, i32_w]
                rfl
              refine one_ (i := 2) (N := some 40) #[true, true, true, true, false, false, false, false, false] rfl rfl (one_of HT_.out (by kernel_rfl)) (by decide) (fun K hK => ?_)
              refine goes_ Tryd.func42 (by kernel_rfl) rfl #[.agg #[.int .i64 a0_0, .int .i64 a0_1]] (by rfl) rfl rfl (by (try simp only [List.map_toArray, List.map_cons, List.map_nil]); first | done | rfl | (simp only [List.length_drop, List.length_take]; rfl)) ?_
              with_reducible refine (deci_units.calls kj2 a0_0 a0_1 t314 _ A26.out).mono ?_
              rintro e w37 ⟨rfl, hb⟩
              refine ⟨_, rfl, ?_⟩
              have n0_ := Aside0.mk (Kd.R_below (by (with_reducible repeat (first | apply Kd.R_alloc | apply Kd.R_drewN | apply Kd.R_drew)); exact HO308.out) hb)
              have n1_ := Aside0.mk (blk_below (g := gb305) (o := .cells #[.int .i64 a0_0, .int .i64 a0_1] 23 (0, 0)) (by (with_reducible repeat (first | refine blk_drewN ?_ _ | refine blk_drew ?_ | refine blk_alloc ?_ _)); exact BK305.out) hb)
              have n2_ := Aside0.mk (below_step (by repeat (first | (with_reducible first | exact HB.out | apply below_alloc | apply pw_below_drewN | apply below_drew1 | refine below_set ?_ GE305.out) | exact HB.out)) hb)
              clear HO308
              clear BK305
              clear HB
              have HO308 := n0_
              have BK305 := n1_
              have HB := n2_
              clear n0_ n1_ n2_
              (try clear hb)
              (try clear hb2)
              (try clear hk)
              (try clear hi)
              refine hK.out _ _ ⟨(blk_cell BK305.out 0).trans rfl, (blk_cell BK305.out 1).trans rfl⟩ (fun hHeld => ?_)
              clear hK K
              refine norm_ (a' := ?_) ?_ ?_
              rotate_left
              · show Act.put _ (some 40) _ = _
                simp only [Act.put, List.setIfInBounds_toArray, List.set_cons_zero, List.set_cons_succ, i64_w, i32_w]
                rfl
              refine pure_ (i := 4) (N := some 42) (v := ?_) (a' := ?_) #[true, true, true, true, true, false, false, false, false] rfl rfl (any_of HT_.out (by kernel_rfl)) (fun _ _ _ h => h) (Or.inl ⟨by rfl, ?_⟩) ?_ ?_
              rotate_left
              · intro w'
                go_simp
                with_reducible rfl
              rotate_left
              · simp only [Act.put, List.setIfInBounds_toArray, List.set_cons_zero, List.set_cons_succ, i64_w, i32_w]
                rfl
              refine pure_ (i := 5) (N := some 43) (v := ?_) (a' := ?_) #[true, true, true, true, true, true, false, false, false] rfl rfl (any_of HT_.out (by kernel_rfl)) (fun _ _ _ h => h) (Or.inl ⟨by rfl, ?_⟩) ?_ ?_
              rotate_left
              · intro w'
                go_simp
                with_reducible rfl
              rotate_left
              · simp only [Act.put, List.setIfInBounds_toArray, List.set_cons_zero, List.set_cons_succ, i64_w, i32_w]
                rfl
              refine pure_ (i := 6) (N := some 4) (v := ?_) (a' := ?_) #[true, true, true, true, true, true, true, false, false] rfl rfl (any_of HT_.out (by kernel_rfl)) (fun _ _ _ h => h) (Or.inl ⟨by rfl, ?_⟩) ?_ ?_
              rotate_left
              · intro w'
                go_simp
                with_reducible rfl
              rotate_left
              · simp only [Act.put, List.setIfInBounds_toArray, List.set_cons_zero, List.set_cons_succ, i64_w, i32_w]
                rfl
              refine pure_ (i := 7) (N := some 5) (v := ?_) (a' := ?_) #[true, true, true, true, true, true, true, true, false] rfl rfl (any_of HT_.out (by kernel_rfl)) (fun _ _ _ h => h) (Or.inl ⟨by rfl, ?_⟩) ?_ ?_
              rotate_left
              · intro w'
                go_simp
                with_reducible rfl
              rotate_left
              · simp only [Act.put, List.setIfInBounds_toArray, List.set_cons_zero, List.set_cons_succ, i64_w, i32_w]
                rfl
              refine pure_ (i := 8) (N := some 6) (v := ?_) (a' := ?_) #[true, true, true, true, true, true, true, true, true] rfl rfl (any_of HT_.out (by kernel_rfl)) (fun _ _ _ h => h) (Or.inl ⟨by rfl, ?_⟩) ?_ ?_
              rotate_left
              · intro w'
                go_simp
                with_reducible rfl
              rotate_left
              · simp only [Act.put, List.setIfInBounds_toArray, List.set_cons_zero, List.set_cons_succ, i64_w, i32_w]
                rfl
              refine done_ (done_of HT_.out (by kernel_rfl)) ?_
              try go_wp2
              go_ret3
              exact ⟨by first | rfl | (simp [errW_none, errW_some] <;> rfl) | (simp [*, errW_none, errW_some] <;> rfl), by repeat (first | (with_reducible first | exact HB.out | apply below_alloc | apply pw_below_drewN | apply below_drew1 | refine below_set ?_ GE305.out) | exact HB.out)⟩
        · rw [if_neg c8] at H
          have c8b0 : (t309 == 0) = false := beq_eq_false_iff_ne.mpr c8
          have c8b1 : (t309 != 0) = true := bne_iff_ne.mpr c8
          simp only [Option.some.injEq, Prod.mk.injEq] at H
          obtain ⟨rfl, rfl, rfl⟩ := H
          have hcz38_0 : wc.cell? ⟨gb305, 0, none⟩ = some (.int .i64 a0_0) := (blk_cell BK305.out 0).trans rfl
          have hcz38_1 : wc.cell? ⟨gb305, 1, none⟩ = some (.int .i64 a0_1) := (blk_cell BK305.out 1).trans rfl
          have hfz38_0 := blk_frozen BK305.out 0
          have hfz38_1 := blk_frozen BK305.out 1
          go_wp2_with (first | ((with_reducible refine gate_dst (N := 17) rfl ?_); refine Kd.R_lit k23 _ 23 ?hg (N := 17) ?hd (xs := ([(⟨a0_0, a0_1⟩ : S23)] : List (S23))) (inner := [.int .i64 a0_0, .int .i64 a0_1]) (ok := fun _ => True) (okp := fun _ => True) ?hr ?hp (fun _ hk => hk) trivial (Below.refl _ _) (Nat.le_refl _) (by simp) ?_; (case hd => rfl); (case hg => rfl); (case hr => first | (go_simp; done) | (go_simp; rfl)); (case hp => exact (Reps.c2 (show Kd.M k23 _ _ _ (⟨a0_0, a0_1⟩ : S23) [.int .i64 a0_0, .int .i64 a0_1] from (k23_mkM _ _ _ (⟨a0_0, a0_1⟩ : S23) )) (Reps.none _ _))); intro v307 w39 ho40 hb hg_ hnew_; clear hg_ hnew_; (first | rw [← Ny306.out] at ho40 | (simp only [Int.reduceToNat] at ho40; rw [← Ny306.out] at ho40)); have n0_ := Aside0.mk (Kd.R_lower (Kd.R_newB ho40 (g := gb305) (o := .cells #[.int .i64 a0_0, .int .i64 a0_1] 23 (0, 0)) (by (with_reducible repeat (first | refine blk_drewN ?_ _ | refine blk_drew ?_ | refine blk_alloc ?_ _)); exact BK305.out)) (below_size (by repeat (first | (with_reducible first | exact HB.out | apply below_alloc | apply pw_below_drewN | apply below_drew1 | refine below_set ?_ GE305.out) | exact HB.out)))); have n1_ := Aside0.mk (blk_below (g := gb305) (o := .cells #[.int .i64 a0_0, .int .i64 a0_1] 23 (0, 0)) (by (with_reducible repeat (first | refine blk_drewN ?_ _ | refine blk_drew ?_ | refine blk_alloc ?_ _)); exact BK305.out) hb); have n2_ := Aside0.mk (below_step (by repeat (first | (with_reducible first | exact HB.out | apply below_alloc | apply pw_below_drewN | apply below_drew1 | refine below_set ?_ GE305.out) | exact HB.out)) hb); clear BK305; clear HB; have HO308 := n0_; have BK305 := n1_; have HB := n2_; clear n0_ n1_ n2_; clear hb ho40; obtain ⟨Ao41, co41, eo41⟩ := Kd.R_slice HO308.out; subst eo41) | ((with_reducible refine gate_callee (f := 27) rfl ?_); refine goesL_ (some 18) rfl rfl Tryd.func27 (by kernel_rfl) rfl #[.slice Ao41 y306.length co41] rfl (by (try simp only [List.map_toArray, List.map_cons, List.map_nil]); first | done | rfl | (simp only [List.length_drop, List.length_take]; rfl)) ?_; (with_reducible refine (deci_all.calls kj2 _ _ y306 t309 _ ?side1 ?side2 A7.out).mono ?_); (case side1 => repeat (first | exact (Kd.R_reads' HO308.out).2.2 | (with_reducible refine Kd.C_alloc ?_ _) | (with_reducible refine Kd.C_drewN ?_ _) | (with_reducible refine Kd.C_drew ?_))); (case side2 => exact (Kd.R_reads' HO308.out).2.1); rintro e w42 ⟨rfl, hb⟩; refine ⟨_, rfl, ?_⟩; have n0_ := Aside0.mk (Kd.R_below (by (with_reducible repeat (first | apply Kd.R_alloc | apply Kd.R_drewN | apply Kd.R_drew)); exact HO308.out) hb); have n1_ := Aside0.mk (blk_below (g := gb305) (o := .cells #[.int .i64 a0_0, .int .i64 a0_1] 23 (0, 0)) (by (with_reducible repeat (first | refine blk_drewN ?_ _ | refine blk_drew ?_ | refine blk_alloc ?_ _)); exact BK305.out) hb); have n2_ := Aside0.mk (below_step (by repeat (first | (with_reducible first | exact HB.out | apply below_alloc | apply pw_below_drewN | apply below_drew1 | refine below_set ?_ GE305.out) | exact HB.out)) hb); clear HO308; clear BK305; clear HB; have HO308 := n0_; have BK305 := n1_; have HB := n2_; clear n0_ n1_ n2_; (try clear hb); (try clear hb2); (try clear hk); (try clear hi)))
          go_ret3
          exact ⟨by first | rfl | (simp [errW_none, errW_some] <;> rfl) | (simp [*, errW_none, errW_some] <;> rfl), by repeat (first | (with_reducible first | exact HB.out | apply below_alloc | apply pw_below_drewN | apply below_drew1 | refine below_set ?_ GE305.out) | exact HB.out)⟩
end Go.Proofs.YtgkemhgihbfmmaaDoor.PA
end
section
namespace Go.Proofs.YtgkemhgihbfmmaaDoor.PA
open Go.RowKit Go.Proofs.YtgkemhgihbfmmaaDoorW.PrintWords Go.Proofs.YtgkemhgihbfmmaaDoorW.PrintLast Go.Proofs.YtgkemhgihbfmmaaDoorW.PrintMore
attribute [local go_sem] max2_int min2_int max_two min_two max_three min_three max_four min_four
set_option linter.unusedVariables false
set_option linter.unusedSimpArgs false
mutual
def soffitref01_At.j0 : Nat → Int → Bool → Int → Int → Option (Int × Bool × Int)
  | 0, _, _, _, _ => none
  | k + 1, x1, x17, x316000, x316001 => if x17 = true then (some (0, false, 1)) else ((soffitref01_Sound.f k x316000 x316001).bind fun t316 => (if t316 = true then (soffitref01_At.l0 k x1 x316000 x316001 x316000 x316001) else (some (0, false, 2))))
def soffitref01_At.l0 : Nat → Int → Int → Int → Int → Int → Option (Int × Bool × Int)
  | 0, _, _, _, _, _ => none
  | k + 1, x1, x7, x8, x316000, x316001 => if x8 < x1 then (soffitref01_At.l0 k x1 (wrap64 (x7 * 10)) (wrap64 (x8 + 1)) x316000 x316001) else (soffitref01_At.l1 k x7 true x1 x316000 x316001)
def soffitref01_At.l1 : Nat → Int → Bool → Int → Int → Int → Option (Int × Bool × Int)
  | 0, _, _, _, _, _ => none
  | k + 1, x7, x9, x10, x316000, x316001 => if x10 < x316001 then (if (Int.tmod x7 10) = 0 then (soffitref01_At.l1 k (wrap64 (Int.tdiv x7 10)) x9 (wrap64 (x10 + 1)) x316000 x316001) else (if (Int.tmod x7 10) < 0 then (soffitref01_At.l1 k (wrap64 ((wrap64 (Int.tdiv x7 10)) - 1)) false (wrap64 (x10 + 1)) x316000 x316001) else (soffitref01_At.l1 k (wrap64 (Int.tdiv x7 10)) false (wrap64 (x10 + 1)) x316000 x316001))) else (some (x7, x9, 0))
end
def soffitref01_At.f (k : Nat) (a0_0 : Int) (a0_1 : Int) (a1 : Int) : Option (Int × Bool × Int) := if a1 < 0 then (soffitref01_At.j0 k a1 true a0_0 a0_1) else (soffitref01_At.j0 k a1 (decide (a1 > 6)) a0_0 a0_1)
theorem soffitref01_At.mono_l : ∀ k, (∀ y0 y1 y2 y3, LeO (soffitref01_At.j0 k y0 y1 y2 y3) (soffitref01_At.j0 (k + 1) y0 y1 y2 y3)) ∧ (∀ y0 y1 y2 y3 y4, LeO (soffitref01_At.l0 k y0 y1 y2 y3 y4) (soffitref01_At.l0 (k + 1) y0 y1 y2 y3 y4)) ∧ (∀ y0 y1 y2 y3 y4, LeO (soffitref01_At.l1 k y0 y1 y2 y3 y4) (soffitref01_At.l1 (k + 1) y0 y1 y2 y3 y4))
  | 0 => ⟨fun _ _ _ _ r h => by simp [soffitref01_At.j0] at h, fun _ _ _ _ _ r h => by simp [soffitref01_At.l0] at h, fun _ _ _ _ _ r h => by simp [soffitref01_At.l1] at h⟩
  | k + 1 => by
    obtain ⟨ih0, ih1, ih2⟩ := soffitref01_At.mono_l k
    refine ⟨?_, ?_, ?_⟩
    · intro y0 y1 y2 y3
      unfold soffitref01_At.j0
      repeat' first
      | (with_reducible exact ih0 _ _ _ _)
      | (with_reducible exact ih1 _ _ _ _ _)
      | (with_reducible exact ih2 _ _ _ _ _)
      | (with_reducible exact soffitref01_Sound.mono _ _ _)
      | (with_reducible exact LeO.refl _)
      | (with_reducible exact LeO.none _)
      | (with_reducible refine LeO.ite ?_ ?_)
      | (with_reducible refine LeO.bind ?_ (fun _ => ?_))
      | exact ih0 _ _ _ _
      | exact ih1 _ _ _ _ _
      | exact ih2 _ _ _ _ _
      | exact soffitref01_Sound.mono _ _ _
      | exact LeO.none _
      | refine LeO.ite ?_ ?_
      | refine LeO.bind ?_ (fun _ => ?_)
    · intro y0 y1 y2 y3 y4
      unfold soffitref01_At.l0
      repeat' first
      | (with_reducible exact ih0 _ _ _ _)
      | (with_reducible exact ih1 _ _ _ _ _)
      | (with_reducible exact ih2 _ _ _ _ _)
      | (with_reducible exact soffitref01_Sound.mono _ _ _)
      | (with_reducible exact LeO.refl _)
      | (with_reducible exact LeO.none _)
      | (with_reducible refine LeO.ite ?_ ?_)
      | (with_reducible refine LeO.bind ?_ (fun _ => ?_))
      | exact ih0 _ _ _ _
      | exact ih1 _ _ _ _ _
      | exact ih2 _ _ _ _ _
      | exact soffitref01_Sound.mono _ _ _
      | exact LeO.none _
      | refine LeO.ite ?_ ?_
      | refine LeO.bind ?_ (fun _ => ?_)
    · intro y0 y1 y2 y3 y4
      unfold soffitref01_At.l1
      repeat' first
      | (with_reducible exact ih0 _ _ _ _)
      | (with_reducible exact ih1 _ _ _ _ _)
      | (with_reducible exact ih2 _ _ _ _ _)
      | (with_reducible exact soffitref01_Sound.mono _ _ _)
      | (with_reducible exact LeO.refl _)
      | (with_reducible exact LeO.none _)
      | (with_reducible refine LeO.ite ?_ ?_)
      | (with_reducible refine LeO.bind ?_ (fun _ => ?_))
      | exact ih0 _ _ _ _
      | exact ih1 _ _ _ _ _
      | exact ih2 _ _ _ _ _
      | exact soffitref01_Sound.mono _ _ _
      | exact LeO.none _
      | refine LeO.ite ?_ ?_
      | refine LeO.bind ?_ (fun _ => ?_)
theorem soffitref01_At.mono : ∀ a0 a1 a2 k, LeO (soffitref01_At.f k a0 a1 a2) (soffitref01_At.f (k + 1) a0 a1 a2) := by
  intro a0 a1 a2 k
  obtain ⟨ih0, ih1, ih2⟩ := soffitref01_At.mono_l k
  unfold soffitref01_At.f
  repeat' first
      | (with_reducible exact ih0 _ _ _ _)
      | (with_reducible exact ih1 _ _ _ _ _)
      | (with_reducible exact ih2 _ _ _ _ _)
      | (with_reducible exact soffitref01_Sound.mono _ _ _)
      | (with_reducible exact LeO.refl _)
      | (with_reducible exact LeO.none _)
      | (with_reducible refine LeO.ite ?_ ?_)
      | (with_reducible refine LeO.bind ?_ (fun _ => ?_))
      | exact ih0 _ _ _ _
      | exact ih1 _ _ _ _ _
      | exact ih2 _ _ _ _ _
      | exact soffitref01_Sound.mono _ _ _
      | exact LeO.none _
      | refine LeO.ite ?_ ?_
      | refine LeO.bind ?_ (fun _ => ?_)
set_option maxHeartbeats 8000000 in
set_option maxRecDepth 100000 in
theorem soffitref01_At.calls (k : Nat) (a0_0 : Int) (a0_1 : Int) (a1 : Int) (r1 : Int) (r2 : Bool) (r3 : Int) (w : World) (h : soffitref01_At.f k a0_0 a0_1 a1 = some (r1, r2, r3)) :
    Calls Tryd.prog 21 #[.agg #[.int .i64 a0_0, .int .i64 a0_1], .int .i64 a1] w fun e w' => e = .returned (.tuple #[.int .i64 r1, .bool r2, .int .i64 r3]) ∧ Below w.heap.size w w' := by
  have hu23 := Tryd.underlying23
  have HB := Aside0.mk (Below.refl w.heap.size w)
  have H : (if a1 < 0 then (soffitref01_At.j0 k a1 true a0_0 a0_1) else (soffitref01_At.j0 k a1 (decide (a1 > 6)) a0_0 a0_1)) = some (r1, r2, r3) := h
  clear h
  have HC3 := Aside0.mk H
  clear H
  go_enter Tryd.func21, Tryd.ntmps21
  go_upto_region 1 with (first | ((with_reducible refine gate_dst (N := 2) rfl ?_); refine box_event ?hg (N := 2) ?hd (cs := #[.int .i64 a0_0, .int .i64 a0_1]) (t := 23) ?hr ?_; (case hd => rfl); (case hg => rfl); (case hr => first | (go_simp; done) | (go_simp; rfl)); intro gb315 hg w4 hbox hb; have n0_ := Aside0.mk (below_step (by repeat (first | (with_reducible first | exact HB.out | apply below_alloc | apply pw_below_drewN | apply below_drew1) | exact HB.out)) hb); have n1_ := Aside0.mk (hbox); have n2_ := Aside0.mk ((by rw [hg]; exact (below_size (by repeat (first | (with_reducible first | exact HB.out | apply below_alloc | apply pw_below_drewN | apply below_drew1) | exact HB.out))) : w.heap.size ≤ gb315)); have n3_ := Aside0.mk ((by rw [hg]; exact (below_size (by repeat (first | (with_reducible first | exact HB.out | apply below_alloc | apply pw_below_drewN | apply below_drew1) | exact HB.out))) : w.heap.size ≤ gb315)); clear HB; have HB := n0_; have BK315 := n1_; have GW315 := n2_; have GE315 := n3_; clear n0_ n1_ n2_ n3_; clear hb hbox hg))
  (try simp only [Act.put, List.setIfInBounds_toArray, List.set_cons_zero, List.set_cons_succ])
  go_cut [17] (fun v17 wc => ∃ (kq : Nat) (x17_2 : Bool), v17 = .bool x17_2 ∧ Aside0 (soffitref01_At.j0 kq a1 x17_2 a0_0 a0_1 = some (r1, r2, r3)) ∧ Aside0 (kq ≤ k) ∧ Aside0 (wc.heap[gb315]? = some (.cells #[.int .i64 a0_0, .int .i64 a0_1] 23 (0, 0))) ∧ Aside0 (Below w.heap.size w wc))
  case first =>
    have H := HC3.out
    clear HC3
    by_cases c5 : a1 < 0
    · rw [if_pos c5] at H
      have c5b0 : decide (a1 < 0) = true := decide_eq_true c5
      clear c5
      (first | rw [c5b0] | (simp only [i64_w, i32_w]; rw [c5b0]) | skip)
      have H' := Aside0.mk H
      clear H
      go_wp2
      go_meet
      case rel => exact ⟨_, (true), (by first | rfl | (simp; done) | (simp [*]; done)), H', ⟨by first | omega | exact Nat.le_refl _⟩, ⟨by (with_reducible repeat (first | refine blk_drewN ?_ _ | refine blk_drew ?_ | refine blk_alloc ?_ _)); exact BK315.out⟩, ⟨by repeat (first | (with_reducible first | exact HB.out | apply below_alloc | apply pw_below_drewN | apply below_drew1 | refine below_set ?_ GE315.out) | exact HB.out)⟩⟩
    · rw [if_neg c5] at H
      have c5b0 : decide (a1 < 0) = false := decide_eq_false c5
      clear c5
      (first | rw [c5b0] | (simp only [i64_w, i32_w]; rw [c5b0]) | skip)
      have H' := Aside0.mk H
      clear H
      go_wp2
      go_meet
      case rel => exact ⟨_, (decide (a1 > 6)), (by first | rfl | (simp; done) | (simp [*]; done)), H', ⟨by first | omega | exact Nat.le_refl _⟩, ⟨by (with_reducible repeat (first | refine blk_drewN ?_ _ | refine blk_drew ?_ | refine blk_alloc ?_ _)); exact BK315.out⟩, ⟨by repeat (first | (with_reducible first | exact HB.out | apply below_alloc | apply pw_below_drewN | apply below_drew1 | refine below_set ?_ GE315.out) | exact HB.out)⟩⟩
  case rest =>
    clear HC3
    try clear c2
    try clear p2
    try clear c5
    try clear c5b0
    obtain ⟨kq, x17_2, rfl, HA, HJ2, BK315, HB⟩ := hcut
    cases kq with
    | zero => exact absurd HA.out (by simp [soffitref01_At.j0])
    | succ kj2 =>
      have H := HA.out
      clear HA
      simp only [soffitref01_At.j0] at H
      by_cases c6 : x17_2 = true
      · subst c6
        have H1 : (some (0, false, 1)) = some (r1, r2, r3) := by rw [if_pos rfl] at H; exact H
        clear H
        have H := H1
        clear H1
        simp only [Option.some.injEq, Prod.mk.injEq] at H
        obtain ⟨rfl, rfl, rfl⟩ := H
        go_wp2
        go_ret3
        exact ⟨by first | rfl | (simp [errW_none, errW_some] <;> rfl) | (simp [*, errW_none, errW_some] <;> rfl), by repeat (first | (with_reducible first | exact HB.out | apply below_alloc | apply pw_below_drewN | apply below_drew1 | refine below_set ?_ GE315.out) | exact HB.out)⟩
      · replace c6 := Bool.eq_false_iff.mpr c6
        subst c6
        have H1 : ((soffitref01_Sound.f kj2 a0_0 a0_1).bind fun t316 => (if t316 = true then (soffitref01_At.l0 kj2 a1 a0_0 a0_1 a0_0 a0_1) else (some (0, false, 2)))) = some (r1, r2, r3) := by rw [if_neg (show ¬ (false = true) by decide)] at H; exact H
        clear H
        have H := H1
        clear H1
        replace H := Option.bind_eq_some_iff.mp H
        obtain ⟨t316, A70, H⟩ := H
        replace H : (if t316 = true then (soffitref01_At.l0 kj2 a1 a0_0 a0_1 a0_0 a0_1) else (some (0, false, 2))) = some (r1, r2, r3) := H
        have A7 := Aside0.mk A70
        clear A70
        by_cases c8 : t316 = true
        · subst c8
          have H1 : (soffitref01_At.l0 kj2 a1 a0_0 a0_1 a0_0 a0_1) = some (r1, r2, r3) := by rw [if_pos rfl] at H; exact H
          clear H
          have H := H1
          clear H1
          have H' := Aside0.mk H
          clear H
          have hcz9_0 : wc.cell? ⟨gb315, 0, none⟩ = some (.int .i64 a0_0) := (blk_cell BK315.out 0).trans rfl
          have hcz9_1 : wc.cell? ⟨gb315, 1, none⟩ = some (.int .i64 a0_1) := (blk_cell BK315.out 1).trans rfl
          have hfz9_0 := blk_frozen BK315.out 0
          have hfz9_1 := blk_frozen BK315.out 1
          go_wp2_with (first | ((with_reducible refine gate_callee (f := 13) rfl ?_); refine goesL_ (some 19) rfl rfl Tryd.func13 (by kernel_rfl) rfl #[.agg #[.int .i64 a0_0, .int .i64 a0_1]] rfl (by (try simp only [List.map_toArray, List.map_cons, List.map_nil]); first | done | rfl | (simp only [List.length_drop, List.length_take]; rfl)) ?_; (with_reducible refine (soffitref01_Sound.calls kj2 a0_0 a0_1 true _ A7.out).mono ?_); rintro e w10 ⟨rfl, hb⟩; refine ⟨_, rfl, ?_⟩; have n0_ := Aside0.mk (blk_below (g := gb315) (o := .cells #[.int .i64 a0_0, .int .i64 a0_1] 23 (0, 0)) (by (with_reducible repeat (first | refine blk_drewN ?_ _ | refine blk_drew ?_ | refine blk_alloc ?_ _)); exact BK315.out) hb); have n1_ := Aside0.mk (below_step (by repeat (first | (with_reducible first | exact HB.out | apply below_alloc | apply pw_below_drewN | apply below_drew1 | refine below_set ?_ GE315.out) | exact HB.out)) hb); clear BK315; clear HB; have BK315 := n0_; have HB := n1_; clear n0_ n1_; (try clear hb); (try clear hb2); (try clear hk); (try clear hi); have hcz11_0 : w10.cell? ⟨gb315, 0, none⟩ = some (.int .i64 a0_0) := (blk_cell BK315.out 0).trans rfl; have hcz11_1 : w10.cell? ⟨gb315, 1, none⟩ = some (.int .i64 a0_1) := (blk_cell BK315.out 1).trans rfl; have hfz11_0 := blk_frozen BK315.out 0; have hfz11_1 := blk_frozen BK315.out 1))
          (try simp only [Act.put, List.setIfInBounds_toArray, List.set_cons_succ, List.set_cons_zero])
          go_loopg [7, 8] kj2 (fun kq v7 v8 w' => ∃ (x7_2 : Int) (x8_2 : Int), v7 = .int .i64 x7_2 ∧ v8 = .int .i64 x8_2 ∧ Aside0 (soffitref01_At.l0 kq a1 x7_2 x8_2 a0_0 a0_1 = some (r1, r2, r3)) ∧ Aside0 (kq ≤ kj2) ∧ Aside0 (w'.heap[gb315]? = some (.cells #[.int .i64 a0_0, .int .i64 a0_1] 23 (0, 0))) ∧ Aside0 (Below w.heap.size w w'))
          case atStart => exact ⟨(a0_0), (a0_1), (by first | rfl | (simp; done) | (simp [*]; done)), (by first | rfl | (simp; done) | (simp [*]; done)), H', ⟨Nat.le_refl _⟩, ⟨by (with_reducible repeat (first | refine blk_drewN ?_ _ | refine blk_drew ?_ | refine blk_alloc ?_ _)); exact BK315.out⟩, ⟨by repeat (first | (with_reducible first | exact HB.out | apply below_alloc | apply pw_below_drewN | apply below_drew1 | refine below_set ?_ GE315.out) | exact HB.out)⟩⟩
          case round =>
            clear H'
            try clear c1
            try clear c2
            try clear p2
            try clear c5
            try clear c5b0
            try clear c6
            try clear c8
            try clear hcz11_0
            try clear hcz11_1
            try clear hcz9_0
            try clear hcz9_1
            try clear hfz11_0
            try clear hfz11_1
            try clear hfz9_0
            try clear hfz9_1
            try clear p2
            obtain ⟨x7_2, x8_2, rfl, rfl, HA, HK2, BK315, HB⟩ := hrel
            cases gk with
            | zero => exact absurd HA.out (by simp [soffitref01_At.l0])
            | succ k2 =>
              have H := HA.out
              clear HA
              simp only [soffitref01_At.l0] at H
              by_cases c12 : x8_2 < a1
              · rw [if_pos c12] at H
                have c12b0 : decide (x8_2 < a1) = true := decide_eq_true c12
                clear c12
                have H' := Aside0.mk H
                clear H
                go_wp2
                go_roundg k2
                case measure => have := HJ2.out; have := HK2.out; omega
                case rel => exact ⟨(wrap64 (x7_2 * 10)), (wrap64 (x8_2 + 1)), (by first | rfl | (simp; done) | (simp [*]; done)), (by first | rfl | (simp; done) | (simp [*]; done)), H', ⟨by have := HJ2.out; have := HK2.out; omega⟩, ⟨by (with_reducible repeat (first | refine blk_drewN ?_ _ | refine blk_drew ?_ | refine blk_alloc ?_ _)); exact BK315.out⟩, ⟨by repeat (first | (with_reducible first | exact HB.out | apply below_alloc | apply pw_below_drewN | apply below_drew1 | refine below_set ?_ GE315.out) | exact HB.out)⟩⟩
              · rw [if_neg c12] at H
                have c12b0 : decide (x8_2 < a1) = false := decide_eq_false c12
                clear c12
                have H' := Aside0.mk H
                clear H
                go_wp2
                (try simp only [Act.put, List.setIfInBounds_toArray, List.set_cons_succ, List.set_cons_zero])
                go_loopg [7, 9, 10] k2 (fun kq v7 v9 v10 w' => ∃ (x7_3 : Int) (x9_3 : Bool) (x10_3 : Int), v7 = .int .i64 x7_3 ∧ v9 = .bool x9_3 ∧ v10 = .int .i64 x10_3 ∧ Aside0 (soffitref01_At.l1 kq x7_3 x9_3 x10_3 a0_0 a0_1 = some (r1, r2, r3)) ∧ Aside0 (kq ≤ k2) ∧ Aside0 (w'.heap[gb315]? = some (.cells #[.int .i64 a0_0, .int .i64 a0_1] 23 (0, 0))) ∧ Aside0 (Below w.heap.size w w'))
                case atStart => exact ⟨(x7_2), (true), (a1), (by first | rfl | (simp; done) | (simp [*]; done)), (by first | rfl | (simp; done) | (simp [*]; done)), (by first | rfl | (simp; done) | (simp [*]; done)), H', ⟨Nat.le_refl _⟩, ⟨by (with_reducible repeat (first | refine blk_drewN ?_ _ | refine blk_drew ?_ | refine blk_alloc ?_ _)); exact BK315.out⟩, ⟨by repeat (first | (with_reducible first | exact HB.out | apply below_alloc | apply pw_below_drewN | apply below_drew1 | refine below_set ?_ GE315.out) | exact HB.out)⟩⟩
                case round =>
                  clear H'
                  try clear c1
                  try clear c2
                  try clear p2
                  try clear c5
                  try clear c5b0
                  try clear c6
                  try clear p6
                  try clear c8
                  try clear c12
                  try clear c12b0
                  try clear hcz11_0
                  try clear hcz11_1
                  try clear hcz9_0
                  try clear hcz9_1
                  try clear hfz11_0
                  try clear hfz11_1
                  try clear hfz9_0
                  try clear hfz9_1
                  try clear p2
                  obtain ⟨x7_3, x9_3, x10_3, rfl, rfl, rfl, HA, HK3, BK315, HB⟩ := hrel
                  cases gk with
                  | zero => exact absurd HA.out (by simp [soffitref01_At.l1])
                  | succ k3 =>
                    have H := HA.out
                    clear HA
                    simp only [soffitref01_At.l1] at H
                    by_cases c13 : x10_3 < a0_1
                    · rw [if_pos c13] at H
                      have c13b0 : decide (x10_3 < a0_1) = true := decide_eq_true c13
                      clear c13
                      by_cases c14 : (Int.tmod x7_3 10) = 0
                      · rw [if_pos c14] at H
                        have c14b0 : ((Int.tmod x7_3 10) == 0) = true := beq_iff_eq.mpr c14
                        have c14b1 : ((Int.tmod x7_3 10) != 0) = false := bne_eq_false_iff_eq.mpr c14
                        clear c14
                        have H' := Aside0.mk H
                        clear H
                        have hcz15_0 : wr.cell? ⟨gb315, 0, none⟩ = some (.int .i64 a0_0) := (blk_cell BK315.out 0).trans rfl
                        have hcz15_1 : wr.cell? ⟨gb315, 1, none⟩ = some (.int .i64 a0_1) := (blk_cell BK315.out 1).trans rfl
                        have hfz15_0 := blk_frozen BK315.out 0
                        have hfz15_1 := blk_frozen BK315.out 1
                        go_wp2
                        go_roundg k3
                        case measure => have := HJ2.out; have := HK2.out; have := HK3.out; omega
                        case rel => exact ⟨(wrap64 (Int.tdiv x7_3 10)), (x9_3), (wrap64 (x10_3 + 1)), (by first | rfl | (simp; done) | (simp [*]; done)), (by first | rfl | (simp; done) | (simp [*]; done)), (by first | rfl | (simp; done) | (simp [*]; done)), H', ⟨by have := HJ2.out; have := HK2.out; have := HK3.out; omega⟩, ⟨by (with_reducible repeat (first | refine blk_drewN ?_ _ | refine blk_drew ?_ | refine blk_alloc ?_ _)); exact BK315.out⟩, ⟨by repeat (first | (with_reducible first | exact HB.out | apply below_alloc | apply pw_below_drewN | apply below_drew1 | refine below_set ?_ GE315.out) | exact HB.out)⟩⟩
                      · rw [if_neg c14] at H
                        have c14b0 : ((Int.tmod x7_3 10) == 0) = false := beq_eq_false_iff_ne.mpr c14
                        have c14b1 : ((Int.tmod x7_3 10) != 0) = true := bne_iff_ne.mpr c14
                        by_cases c16 : (Int.tmod x7_3 10) < 0
                        · rw [if_pos c16] at H
                          have c16b0 : decide ((Int.tmod x7_3 10) < 0) = true := decide_eq_true c16
                          clear c16
                          have H' := Aside0.mk H
                          clear H
                          have hcz17_0 : wr.cell? ⟨gb315, 0, none⟩ = some (.int .i64 a0_0) := (blk_cell BK315.out 0).trans rfl
                          have hcz17_1 : wr.cell? ⟨gb315, 1, none⟩ = some (.int .i64 a0_1) := (blk_cell BK315.out 1).trans rfl
                          have hfz17_0 := blk_frozen BK315.out 0
                          have hfz17_1 := blk_frozen BK315.out 1
                          go_wp2
                          go_roundg k3
                          case measure => have := HJ2.out; have := HK2.out; have := HK3.out; omega
                          case rel => exact ⟨(wrap64 ((wrap64 (Int.tdiv x7_3 10)) - 1)), (false), (wrap64 (x10_3 + 1)), (by first | rfl | (simp; done) | (simp [*]; done)), (by first | rfl | (simp; done) | (simp [*]; done)), (by first | rfl | (simp; done) | (simp [*]; done)), H', ⟨by have := HJ2.out; have := HK2.out; have := HK3.out; omega⟩, ⟨by (with_reducible repeat (first | refine blk_drewN ?_ _ | refine blk_drew ?_ | refine blk_alloc ?_ _)); exact BK315.out⟩, ⟨by repeat (first | (with_reducible first | exact HB.out | apply below_alloc | apply pw_below_drewN | apply below_drew1 | refine below_set ?_ GE315.out) | exact HB.out)⟩⟩
                        · rw [if_neg c16] at H
                          have c16b0 : decide ((Int.tmod x7_3 10) < 0) = false := decide_eq_false c16
                          clear c16
                          have H' := Aside0.mk H
                          clear H
                          have hcz18_0 : wr.cell? ⟨gb315, 0, none⟩ = some (.int .i64 a0_0) := (blk_cell BK315.out 0).trans rfl
                          have hcz18_1 : wr.cell? ⟨gb315, 1, none⟩ = some (.int .i64 a0_1) := (blk_cell BK315.out 1).trans rfl
                          have hfz18_0 := blk_frozen BK315.out 0
                          have hfz18_1 := blk_frozen BK315.out 1
                          go_wp2
                          go_roundg k3
                          case measure => have := HJ2.out; have := HK2.out; have := HK3.out; omega
                          case rel => exact ⟨(wrap64 (Int.tdiv x7_3 10)), (false), (wrap64 (x10_3 + 1)), (by first | rfl | (simp; done) | (simp [*]; done)), (by first | rfl | (simp; done) | (simp [*]; done)), (by first | rfl | (simp; done) | (simp [*]; done)), H', ⟨by have := HJ2.out; have := HK2.out; have := HK3.out; omega⟩, ⟨by (with_reducible repeat (first | refine blk_drewN ?_ _ | refine blk_drew ?_ | refine blk_alloc ?_ _)); exact BK315.out⟩, ⟨by repeat (first | (with_reducible first | exact HB.out | apply below_alloc | apply pw_below_drewN | apply below_drew1 | refine below_set ?_ GE315.out) | exact HB.out)⟩⟩
                    · rw [if_neg c13] at H
                      have c13b0 : decide (x10_3 < a0_1) = false := decide_eq_false c13
                      clear c13
                      simp only [Option.some.injEq, Prod.mk.injEq] at H
                      obtain ⟨rfl, rfl, rfl⟩ := H
                      have hcz19_0 : wr.cell? ⟨gb315, 0, none⟩ = some (.int .i64 a0_0) := (blk_cell BK315.out 0).trans rfl
                      have hcz19_1 : wr.cell? ⟨gb315, 1, none⟩ = some (.int .i64 a0_1) := (blk_cell BK315.out 1).trans rfl
                      have hfz19_0 := blk_frozen BK315.out 0
                      have hfz19_1 := blk_frozen BK315.out 1
                      go_wp2
                      go_ret3
                      exact ⟨by first | rfl | (simp [errW_none, errW_some] <;> rfl) | (simp [*, errW_none, errW_some] <;> rfl), by repeat (first | (with_reducible first | exact HB.out | apply below_alloc | apply pw_below_drewN | apply below_drew1 | refine below_set ?_ GE315.out) | exact HB.out)⟩
        · replace c8 := Bool.eq_false_iff.mpr c8
          subst c8
          have H1 : (some (0, false, 2)) = some (r1, r2, r3) := by rw [if_neg (show ¬ (false = true) by decide)] at H; exact H
          clear H
          have H := H1
          clear H1
          simp only [Option.some.injEq, Prod.mk.injEq] at H
          obtain ⟨rfl, rfl, rfl⟩ := H
          have hcz20_0 : wc.cell? ⟨gb315, 0, none⟩ = some (.int .i64 a0_0) := (blk_cell BK315.out 0).trans rfl
          have hcz20_1 : wc.cell? ⟨gb315, 1, none⟩ = some (.int .i64 a0_1) := (blk_cell BK315.out 1).trans rfl
          have hfz20_0 := blk_frozen BK315.out 0
          have hfz20_1 := blk_frozen BK315.out 1
          go_wp2_with (first | ((with_reducible refine gate_callee (f := 13) rfl ?_); refine goesL_ (some 19) rfl rfl Tryd.func13 (by kernel_rfl) rfl #[.agg #[.int .i64 a0_0, .int .i64 a0_1]] rfl (by (try simp only [List.map_toArray, List.map_cons, List.map_nil]); first | done | rfl | (simp only [List.length_drop, List.length_take]; rfl)) ?_; (with_reducible refine (soffitref01_Sound.calls kj2 a0_0 a0_1 false _ A7.out).mono ?_); rintro e w21 ⟨rfl, hb⟩; refine ⟨_, rfl, ?_⟩; have n0_ := Aside0.mk (blk_below (g := gb315) (o := .cells #[.int .i64 a0_0, .int .i64 a0_1] 23 (0, 0)) (by (with_reducible repeat (first | refine blk_drewN ?_ _ | refine blk_drew ?_ | refine blk_alloc ?_ _)); exact BK315.out) hb); have n1_ := Aside0.mk (below_step (by repeat (first | (with_reducible first | exact HB.out | apply below_alloc | apply pw_below_drewN | apply below_drew1 | refine below_set ?_ GE315.out) | exact HB.out)) hb); clear BK315; clear HB; have BK315 := n0_; have HB := n1_; clear n0_ n1_; (try clear hb); (try clear hb2); (try clear hk); (try clear hi)))
          go_ret3
          exact ⟨by first | rfl | (simp [errW_none, errW_some] <;> rfl) | (simp [*, errW_none, errW_some] <;> rfl), by repeat (first | (with_reducible first | exact HB.out | apply below_alloc | apply pw_below_drewN | apply below_drew1 | refine below_set ?_ GE315.out) | exact HB.out)⟩
end Go.Proofs.YtgkemhgihbfmmaaDoor.PA
end
