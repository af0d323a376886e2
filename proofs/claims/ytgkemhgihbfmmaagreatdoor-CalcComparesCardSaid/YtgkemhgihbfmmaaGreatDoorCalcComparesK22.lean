/- Part 23 of the proof for CalcCompares: functions of the program as plain Lean functions, their calls, and what they come to. -/
import Derived.RowKit
import GoSem.Core.Utf8
import Derived.Test.YtgkemhgihbfmmaaGreatDoorCalcComparesK18
import Derived.Test.YtgkemhgihbfmmaaGreatDoorCalcComparesK21
import Derived.Test.YtgkemhgihbfmmaaGreatDoorCalcComparesK17
import Derived.Test.YtgkemhgihbfmmaaGreatDoorCalcComparesK20
import Derived.Test.YtgkemhgihbfmmaaGreatDoorCalcComparesK19
set_option linter.unusedVariables false
set_option linter.unusedSimpArgs false
section
namespace Go.Proofs.YtgkemhgihbfmmaaGreatDoor.PA
open Go.RowKit Go.Proofs.YtgkemhgihbfmmaaGreatDoorW.PrintWords Go.Proofs.YtgkemhgihbfmmaaGreatDoorW.PrintLast Go.Proofs.YtgkemhgihbfmmaaGreatDoorW.PrintMore
attribute [local go_sem] max2_int min2_int max_two min_two max_three min_three max_four min_four isSome_set str_gtr
set_option linter.unusedVariables false
set_option linter.unusedSimpArgs false
mutual
def soffitref11_Equal.j0 : Nat → Bool → Int → Int → Int → ByteArray → Int → Int → Int → Int → ByteArray → Int → Option (Int × Int × Int × ByteArray × Int)
 | 0, _, _, _, _, _, _, _, _, _, _, _ => none
 | k + 1, x14, x1021000, x1021001, x1021002, x1021003, x1021004, x1022000, x1022001, x1022002, x1022003, x1022004 => if x14 = true then (some (0, 0, 0, (⟨#[]⟩ : ByteArray), 0)) else (if x1021000 = 0 then (soffitref11_Equal.j1 k true x1021000 x1021001 x1021002 x1021003 x1021004 x1022000 x1022001 x1022002 x1022003 x1022004) else (soffitref11_Equal.j1 k (x1022000 == 0) x1021000 x1021001 x1021002 x1021003 x1021004 x1022000 x1022001 x1022002 x1022003 x1022004))
def soffitref11_Equal.j1 : Nat → Bool → Int → Int → Int → ByteArray → Int → Int → Int → Int → ByteArray → Int → Option (Int × Int × Int × ByteArray × Int)
 | 0, _, _, _, _, _, _, _, _, _, _, _ => none
 | k + 1, x23, x1021000, x1021001, x1021002, x1021003, x1021004, x1022000, x1022001, x1022002, x1022003, x1022004 => if x23 = true then (if x1021000 = 0 then ((soffitref10_Truth.f (x1022000 == 0)).bind fun bt1025 => (some (bt1025.1, bt1025.2.1, bt1025.2.2.1, bt1025.2.2.2.1, bt1025.2.2.2.2))) else ((soffitref10_Truth.f false).bind fun bt1030 => (some (bt1030.1, bt1030.2.1, bt1030.2.2.1, bt1030.2.2.2.1, bt1030.2.2.2.2)))) else (if x1021000 = x1022000 then ((soffitref04_Compare.f k x1021000 x1021001 x1021002 x1021003 x1021004 x1022000 x1022001 x1022002 x1022003 x1022004).bind fun bt1035 => ((soffitref10_Truth.f (bt1035.1 == 0)).bind fun bt1037 => (some (bt1037.1, bt1037.2.1, bt1037.2.2.1, bt1037.2.2.2.1, bt1037.2.2.2.2)))) else (some (0, 0, 0, (⟨#[]⟩ : ByteArray), 0)))
end
def soffitref11_Equal.f (k : Nat) (a0_0 a0_1 a0_2 : Int) (a0_3 : ByteArray) (a0_4 a1_0 a1_1 a1_2 : Int) (a1_3 : ByteArray) (a1_4 : Int) : Option (Int × Int × Int × ByteArray × Int) := (soffitref04_Sound.f k a0_0 a0_1 a0_2 a0_3 a0_4).bind fun t1023 => (if t1023 = true then ((soffitref04_Sound.f k a1_0 a1_1 a1_2 a1_3 a1_4).bind fun t1024 => (soffitref11_Equal.j0 k (!t1024) a0_0 a0_1 a0_2 a0_3 a0_4 a1_0 a1_1 a1_2 a1_3 a1_4)) else (soffitref11_Equal.j0 k true a0_0 a0_1 a0_2 a0_3 a0_4 a1_0 a1_1 a1_2 a1_3 a1_4))
set_option maxHeartbeats 8000000 in
set_option maxRecDepth 100000 in
theorem soffitref11_Equal.calls (k : Nat) (a0_0 a0_1 a0_2 : Int) (a0_3 : ByteArray) (a0_4 a1_0 a1_1 a1_2 : Int) (a1_3 : ByteArray) (a1_4 r1 r2 r3 : Int) (r4 : ByteArray) (r5 : Int) (w : World) (h : soffitref11_Equal.f k a0_0 a0_1 a0_2 a0_3 a0_4 a1_0 a1_1 a1_2 a1_3 a1_4 = some (r1, r2, r3, r4, r5)) :
  Calls Tryz.prog 27 #[.agg #[.int .i64 a0_0, .int .i64 a0_1, .int .i64 a0_2, .string a0_3, .int .i64 a0_4], .agg #[.int .i64 a1_0, .int .i64 a1_1, .int .i64 a1_2, .string a1_3, .int .i64 a1_4]] w fun e w' => e = .returned (.agg #[.int .i64 r1, .int .i64 r2, .int .i64 r3, .string r4, .int .i64 r5]) ∧ Below w.heap.size w w' := by
 have hu25 := Tryz.underlying25
 have HB := am (Below.refl w.heap.size w)
 have H : ((soffitref04_Sound.f k a0_0 a0_1 a0_2 a0_3 a0_4).bind fun t1023 => (if t1023 = true then ((soffitref04_Sound.f k a1_0 a1_1 a1_2 a1_3 a1_4).bind fun t1024 => (soffitref11_Equal.j0 k (!t1024) a0_0 a0_1 a0_2 a0_3 a0_4 a1_0 a1_1 a1_2 a1_3 a1_4)) else (soffitref11_Equal.j0 k true a0_0 a0_1 a0_2 a0_3 a0_4 a1_0 a1_1 a1_2 a1_3 a1_4))) = some (r1, r2, r3, r4, r5) := h
 clear h
 have HC3 := am H
 clear H
 go_enter Tryz.func27, Tryz.ntmps27
 go_upto_region 1 with (first | ((with_reducible refine gate_dst (N := 2) rfl ?_); refine bev (#[.int .i64 a0_0, .int .i64 a0_1, .int .i64 a0_2, .string a0_3, .int .i64 a0_4]) 25 ?_; intro gb1020 hg w4 hbox hb; have BK1020 := am (hbox); have GW1020 := gs hg HB; have GE1020 := GW1020; replace HB := sb HB hb; clear hb hbox hg) | ((with_reducible refine gate_dst (N := 3) rfl ?_); refine bev (#[.int .i64 a1_0, .int .i64 a1_1, .int .i64 a1_2, .string a1_3, .int .i64 a1_4]) 25 ?_; intro gb1021 hg w5 hbox hb; have BK1021 := am (hbox); have GW1021 := gs hg HB; have GE1021 := GW1021; replace HB := sb HB hb; have NB1020_1021 := na hg BK1020; have NB1021_1020 := nb hg BK1020; replace BK1020 := kb BK1020 hb; clear hb hbox hg) | ((with_reducible refine gate_dst (N := 4) rfl ?_); refine bev (#[.int .i64 0, .int .i64 0, .int .i64 0, .string (⟨#[]⟩ : ByteArray), .int .i64 0]) 25 ?_; intro gb1022 hg w6 hbox hb; have BK1022 := am (hbox); have GW1022 := gs hg HB; have GE1022 := GW1022; replace HB := sb HB hb; have NB1020_1022 := na hg BK1020; have NB1022_1020 := nb hg BK1020; replace BK1020 := kb BK1020 hb; have NB1021_1022 := na hg BK1021; have NB1022_1021 := nb hg BK1021; replace BK1021 := kb BK1021 hb; clear hb hbox hg))
 (try simp only [Act.put, List.setIfInBounds_toArray, List.set_cons_zero, List.set_cons_succ])
 go_cut [14] (fun v14 wc => ∃ (kq : Nat) (x14_2 : Bool), v14 = .bool x14_2 ∧ Aside0 (soffitref11_Equal.j0 kq x14_2 a0_0 a0_1 a0_2 a0_3 a0_4 a1_0 a1_1 a1_2 a1_3 a1_4 = some (r1, r2, r3, r4, r5)) ∧ Aside0 (kq ≤ k) ∧ Aside0 (wc.heap[gb1020]? = some (.cells #[.int .i64 a0_0, .int .i64 a0_1, .int .i64 a0_2, .string a0_3, .int .i64 a0_4] 25 (0, 0))) ∧ Aside0 (wc.heap[gb1021]? = some (.cells #[.int .i64 a1_0, .int .i64 a1_1, .int .i64 a1_2, .string a1_3, .int .i64 a1_4] 25 (0, 0))) ∧ Aside0 (wc.heap[gb1022]? = some (.cells #[.int .i64 0, .int .i64 0, .int .i64 0, .string (⟨#[]⟩ : ByteArray), .int .i64 0] 25 (0, 0))) ∧ Aside0 (Below w.heap.size w wc))
 case first =>
  have H := HC3.out
  clear HC3
  replace H := obe H
  obtain ⟨t1023, A7, H⟩ := H
  by_cases c8 : t1023 = true
  ·subst c8
   replace H := ift H
   replace H := obe H
   obtain ⟨t1024, A9, H⟩ := H
   have H' := am H
   clear H
   have hnb10 := NB1020_1021.out
   have hnc10 := NB1021_1020.out
   have hnb11 := NB1020_1022.out
   have hnc11 := NB1022_1020.out
   obtain ⟨Z12_0, Z12_1, Z12_2, Z12_3, Z12_4, F12_0, F12_1, F12_2, F12_3, F12_4⟩ := cz5 BK1020.out
   go_wp2_with (first | ((with_reducible refine gate_callee (f := 15) rfl ?_); refine gl_ (some 8) Tryz.func15 (by kernel_rfl) #[.agg #[.int .i64 a0_0, .int .i64 a0_1, .int .i64 a0_2, .string a0_3, .int .i64 a0_4]] rfl ?_; (with_reducible refine (soffitref04_Sound.calls k a0_0 a0_1 a0_2 a0_3 a0_4 true _ A7.out).mono ?_); rintro e w13 ⟨rfl, hb⟩; refine ⟨_, rfl, ?_⟩; replace BK1020 := kb BK1020 hb; replace BK1021 := kb BK1021 hb; replace BK1022 := kb BK1022 hb; replace HB := sb HB hb; clear hb; have hnb14 := NB1021_1022.out; have hnc14 := NB1022_1021.out; obtain ⟨Z15_0, Z15_1, Z15_2, Z15_3, Z15_4, F15_0, F15_1, F15_2, F15_3, F15_4⟩ := cz5 BK1021.out) | (go_at_call 15; (with_reducible refine (soffitref04_Sound.calls k a1_0 a1_1 a1_2 a1_3 a1_4 t1024 _ A9.out).mono ?_); rintro e w16 ⟨rfl, hb⟩; replace BK1020 := kb BK1020 hb; replace BK1021 := kb BK1021 hb; replace BK1022 := kb BK1022 hb; replace HB := sb HB hb; clear hb))
   go_meet
   case rel => exact ⟨_, (!t1024), sz, H', ⟨oz⟩, ⟨bk BK1020.out⟩, ⟨bk BK1021.out⟩, ⟨bk BK1022.out⟩, ⟨bz HB.out⟩⟩
  replace c8 := Bool.eq_false_iff.mpr c8
  subst c8
  replace H := iff_ H
  have H' := am H
  clear H
  have hnb17 := NB1020_1021.out
  have hnc17 := NB1021_1020.out
  have hnb18 := NB1020_1022.out
  have hnc18 := NB1022_1020.out
  obtain ⟨Z19_0, Z19_1, Z19_2, Z19_3, Z19_4, F19_0, F19_1, F19_2, F19_3, F19_4⟩ := cz5 BK1020.out
  go_wp2_with (first | ((with_reducible refine gate_callee (f := 15) rfl ?_); refine gl_ (some 8) Tryz.func15 (by kernel_rfl) #[.agg #[.int .i64 a0_0, .int .i64 a0_1, .int .i64 a0_2, .string a0_3, .int .i64 a0_4]] rfl ?_; (with_reducible refine (soffitref04_Sound.calls k a0_0 a0_1 a0_2 a0_3 a0_4 false _ A7.out).mono ?_); rintro e w20 ⟨rfl, hb⟩; refine ⟨_, rfl, ?_⟩; replace BK1020 := kb BK1020 hb; replace BK1021 := kb BK1021 hb; replace BK1022 := kb BK1022 hb; replace HB := sb HB hb; clear hb))
  go_meet
  case rel => exact ⟨_, (true), sz, H', ⟨oz⟩, ⟨bk BK1020.out⟩, ⟨bk BK1021.out⟩, ⟨bk BK1022.out⟩, ⟨bz HB.out⟩⟩
 case rest =>
  clear HC3
  skip
  obtain ⟨kq, x14_2, rfl, HA, HJ2, BK1020, BK1021, BK1022, HB⟩ := hcut
  cases kq with
  | zero => exact absurd HA.out (by simp [soffitref11_Equal.j0])
  | succ kj2 =>
   have H := HA.out
   clear HA
   simp only [soffitref11_Equal.j0] at H
   by_cases c21 : x14_2 = true
   ·subst c21
    replace H := ift H
    simp only [Option.some.injEq, Prod.mk.injEq] at H
    obtain ⟨rfl, rfl, rfl, rfl, rfl⟩ := H
    have hnb22 := NB1022_1020.out
    have hnc22 := NB1020_1022.out
    have hnb23 := NB1022_1021.out
    have hnc23 := NB1021_1022.out
    obtain ⟨Z24_0, Z24_1, Z24_2, Z24_3, Z24_4, F24_0, F24_1, F24_2, F24_3, F24_4⟩ := cz5 BK1022.out
    go_wp2
    refine bodyPost_ret (results_cell_row rfl _ _ gb1022 25 #[.int .i64 0, .int .i64 0, .int .i64 0, .string (⟨#[]⟩ : ByteArray), .int .i64 0] (0, 0) _ rfl (bp BK1022.out) Tryz.underlying25 rfl (by kernel_rfl)) rfl ?_
    exact ⟨az, bz HB.out⟩
   replace c21 := Bool.eq_false_iff.mpr c21
   subst c21
   replace H := iff_ H
   have HC25 := am H
   clear H
   go_upto_region 3 with (fail)
   go_cut [23] (fun v23 wc => ∃ (kq : Nat) (x23_24 : Bool), v23 = .bool x23_24 ∧ Aside0 (soffitref11_Equal.j1 kq x23_24 a0_0 a0_1 a0_2 a0_3 a0_4 a1_0 a1_1 a1_2 a1_3 a1_4 = some (r1, r2, r3, r4, r5)) ∧ Aside0 (kq ≤ kj2) ∧ Aside0 (wc.heap[gb1020]? = some (.cells #[.int .i64 a0_0, .int .i64 a0_1, .int .i64 a0_2, .string a0_3, .int .i64 a0_4] 25 (0, 0))) ∧ Aside0 (wc.heap[gb1021]? = some (.cells #[.int .i64 a1_0, .int .i64 a1_1, .int .i64 a1_2, .string a1_3, .int .i64 a1_4] 25 (0, 0))) ∧ Aside0 (wc.heap[gb1022]? = some (.cells #[.int .i64 0, .int .i64 0, .int .i64 0, .string (⟨#[]⟩ : ByteArray), .int .i64 0] 25 (0, 0))) ∧ Aside0 (Below w.heap.size w wc))
   case first =>
    have H := HC25.out
    clear HC25
    by_cases c26 : a0_0 = 0
    ·replace H := ipe c26 H
     obtain ⟨H, c26b0, c26b1⟩ := H
     clear c26
     (first | rw [c26b0] | (simp only [i64_w, i32_w]; rw [c26b0]) | skip)
     have H' := am H
     clear H
     have hnb27 := NB1020_1021.out
     have hnc27 := NB1021_1020.out
     have hnb28 := NB1020_1022.out
     have hnc28 := NB1022_1020.out
     obtain ⟨Z29_0, Z29_1, Z29_2, Z29_3, Z29_4, F29_0, F29_1, F29_2, F29_3, F29_4⟩ := cz5 BK1020.out
     go_wp2
     go_meet
     case rel => exact ⟨_, (true), sz, H', ⟨oa HJ2⟩, ⟨bk BK1020.out⟩, ⟨bk BK1021.out⟩, ⟨bk BK1022.out⟩, ⟨bz HB.out⟩⟩
    replace H := ine c26 H
    obtain ⟨H, c26b0, c26b1⟩ := H
    (first | rw [c26b0] | (simp only [i64_w, i32_w]; rw [c26b0]) | skip)
    have H' := am H
    clear H
    have hnb30 := NB1020_1021.out
    have hnc30 := NB1021_1020.out
    have hnb31 := NB1020_1022.out
    have hnc31 := NB1022_1020.out
    obtain ⟨Z32_0, Z32_1, Z32_2, Z32_3, Z32_4, F32_0, F32_1, F32_2, F32_3, F32_4⟩ := cz5 BK1020.out
    have hnb33 := NB1021_1022.out
    have hnc33 := NB1022_1021.out
    obtain ⟨Z34_0, Z34_1, Z34_2, Z34_3, Z34_4, F34_0, F34_1, F34_2, F34_3, F34_4⟩ := cz5 BK1021.out
    go_wp2
    go_meet
    case rel => exact ⟨_, ((a1_0 == 0)), sz, H', ⟨oa HJ2⟩, ⟨bk BK1020.out⟩, ⟨bk BK1021.out⟩, ⟨bk BK1022.out⟩, ⟨bz HB.out⟩⟩
   case rest =>
    clear HC25
    try clear c8; try clear c21; try clear Z12_0; try clear Z12_1; try clear Z12_2; try clear Z12_3; try clear Z12_4; try clear Z15_0; try clear Z15_1; try clear Z15_2; try clear Z15_3; try clear Z15_4; try clear Z19_0; try clear Z19_1; try clear Z19_2; try clear Z19_3; try clear Z19_4; try clear Z24_0; try clear Z24_1; try clear Z24_2; try clear Z24_3; try clear Z24_4; try clear F12_0; try clear F12_1; try clear F12_2; try clear F12_3; try clear F12_4; try clear F15_0; try clear F15_1; try clear F15_2; try clear F15_3; try clear F15_4; try clear F19_0; try clear F19_1; try clear F19_2; try clear F19_3; try clear F19_4; try clear F24_0; try clear F24_1; try clear F24_2; try clear F24_3; try clear F24_4
    obtain ⟨kq, x23_24, rfl, HA, HJ24, BK1020, BK1021, BK1022, HB⟩ := hcut
    cases kq with
    | zero => exact absurd HA.out (by simp [soffitref11_Equal.j1])
    | succ kj24 =>
     have H := HA.out
     clear HA
     simp only [soffitref11_Equal.j1] at H
     by_cases c35 : x23_24 = true
     ·subst c35
      replace H := ift H
      by_cases c36 : a0_0 = 0
      ·replace H := ipe c36 H
       obtain ⟨H, c36b0, c36b1⟩ := H
       clear c36
       replace H := obe5 H
       obtain ⟨t1025, t1026, t1027, t1028, t1029, A37, H⟩ := H
       simp only [Option.some.injEq, Prod.mk.injEq] at H
       obtain ⟨rfl, rfl, rfl, rfl, rfl⟩ := H
       have hnb38 := NB1020_1021.out
       have hnc38 := NB1021_1020.out
       have hnb39 := NB1020_1022.out
       have hnc39 := NB1022_1020.out
       obtain ⟨Z40_0, Z40_1, Z40_2, Z40_3, Z40_4, F40_0, F40_1, F40_2, F40_3, F40_4⟩ := cz5 BK1020.out
       have hnb41 := NB1021_1022.out
       have hnc41 := NB1022_1021.out
       obtain ⟨Z42_0, Z42_1, Z42_2, Z42_3, Z42_4, F42_0, F42_1, F42_2, F42_3, F42_4⟩ := cz5 BK1021.out
       go_wp2_with (first | ((with_reducible refine gate_callee (f := 16) rfl ?_); refine gl_ (some 32) Tryz.func16 (by kernel_rfl) #[.bool (a1_0 == 0)] rfl ?_; (with_reducible refine (soffitref10_Truth.calls (a1_0 == 0) t1025 t1026 t1027 t1028 t1029 _ A37.out).mono ?_); rintro e w43 ⟨rfl, hb⟩; refine ⟨_, rfl, ?_⟩; replace BK1020 := kb BK1020 hb; replace BK1021 := kb BK1021 hb; replace BK1022 := kb BK1022 hb; replace HB := sb HB hb; clear hb; obtain ⟨Z44_0, Z44_1, Z44_2, Z44_3, Z44_4, F44_0, F44_1, F44_2, F44_3, F44_4⟩ := cz5 BK1022.out))
       refine bodyPost_ret (results_cell_row rfl _ _ gb1022 25 #[.int .i64 t1025, .int .i64 t1026, .int .i64 t1027, .string t1028, .int .i64 t1029] (0, 0) _ rfl (bp BK1022.out) Tryz.underlying25 rfl (by kernel_rfl)) rfl ?_
       exact ⟨az, bz HB.out⟩
      replace H := ine c36 H
      obtain ⟨H, c36b0, c36b1⟩ := H
      replace H := obe5 H
      obtain ⟨t1030, t1031, t1032, t1033, t1034, A45, H⟩ := H
      simp only [Option.some.injEq, Prod.mk.injEq] at H
      obtain ⟨rfl, rfl, rfl, rfl, rfl⟩ := H
      have hnb46 := NB1020_1021.out
      have hnc46 := NB1021_1020.out
      have hnb47 := NB1020_1022.out
      have hnc47 := NB1022_1020.out
      obtain ⟨Z48_0, Z48_1, Z48_2, Z48_3, Z48_4, F48_0, F48_1, F48_2, F48_3, F48_4⟩ := cz5 BK1020.out
      go_wp2_with (first | ((with_reducible refine gate_callee (f := 16) rfl ?_); refine gl_ (some 32) Tryz.func16 (by kernel_rfl) #[.bool false] rfl ?_; (with_reducible refine (soffitref10_Truth.calls false t1030 t1031 t1032 t1033 t1034 _ A45.out).mono ?_); rintro e w49 ⟨rfl, hb⟩; refine ⟨_, rfl, ?_⟩; replace BK1020 := kb BK1020 hb; replace BK1021 := kb BK1021 hb; replace BK1022 := kb BK1022 hb; replace HB := sb HB hb; clear hb; have hnb50 := NB1022_1021.out; have hnc50 := NB1021_1022.out; obtain ⟨Z51_0, Z51_1, Z51_2, Z51_3, Z51_4, F51_0, F51_1, F51_2, F51_3, F51_4⟩ := cz5 BK1022.out))
      refine bodyPost_ret (results_cell_row rfl _ _ gb1022 25 #[.int .i64 t1030, .int .i64 t1031, .int .i64 t1032, .string t1033, .int .i64 t1034] (0, 0) _ rfl (bp BK1022.out) Tryz.underlying25 rfl (by kernel_rfl)) rfl ?_
      exact ⟨az, bz HB.out⟩
     replace c35 := Bool.eq_false_iff.mpr c35
     subst c35
     replace H := iff_ H
     have HC52 := am H
     clear H
     have hnb53 := NB1020_1021.out
     have hnc53 := NB1021_1020.out
     have hnb54 := NB1020_1022.out
     have hnc54 := NB1022_1020.out
     obtain ⟨Z55_0, Z55_1, Z55_2, Z55_3, Z55_4, F55_0, F55_1, F55_2, F55_3, F55_4⟩ := cz5 BK1020.out
     have hnb56 := NB1021_1022.out
     have hnc56 := NB1022_1021.out
     obtain ⟨Z57_0, Z57_1, Z57_2, Z57_3, Z57_4, F57_0, F57_1, F57_2, F57_3, F57_4⟩ := cz5 BK1021.out
     go_upto_if 37 with (fail)
     have H := HC52.out
     clear HC52
     clear Z55_0 Z55_1 Z55_2 Z55_3 Z55_4 F55_0 F55_1 F55_2 F55_3 F55_4 Z57_0 Z57_1 Z57_2 Z57_3 Z57_4 F57_0 F57_1 F57_2 F57_3 F57_4
     by_cases c58 : a0_0 = a1_0
     ·replace H := ipe c58 H
      obtain ⟨H, c58b0, c58b1⟩ := H
      clear c58
      (first | rw [c58b0] | (simp only [i64_w, i32_w]; rw [c58b0]) | skip)
      replace H := obe2 H
      obtain ⟨t1035, t1036, A59, H⟩ := H
      replace H := obe5 H
      obtain ⟨t1037, t1038, t1039, t1040, t1041, A60, H⟩ := H
      simp only [Option.some.injEq, Prod.mk.injEq] at H
      obtain ⟨rfl, rfl, rfl, rfl, rfl⟩ := H
      have hnb61 := NB1020_1021.out
      have hnc61 := NB1021_1020.out
      have hnb62 := NB1020_1022.out
      have hnc62 := NB1022_1020.out
      obtain ⟨Z63_0, Z63_1, Z63_2, Z63_3, Z63_4, F63_0, F63_1, F63_2, F63_3, F63_4⟩ := cz5 BK1020.out
      have hnb64 := NB1021_1022.out
      have hnc64 := NB1022_1021.out
      obtain ⟨Z65_0, Z65_1, Z65_2, Z65_3, Z65_4, F65_0, F65_1, F65_2, F65_3, F65_4⟩ := cz5 BK1021.out
      go_wp2_with (first | ((with_reducible refine gate_callee (f := 60) rfl ?_); refine gl_ (some 42) Tryz.func60 (by kernel_rfl) #[.agg #[.int .i64 a0_0, .int .i64 a0_1, .int .i64 a0_2, .string a0_3, .int .i64 a0_4], .agg #[.int .i64 a1_0, .int .i64 a1_1, .int .i64 a1_2, .string a1_3, .int .i64 a1_4]] rfl ?_; (with_reducible refine (soffitref04_Compare.calls kj24 a0_0 a0_1 a0_2 a0_3 a0_4 a1_0 a1_1 a1_2 a1_3 a1_4 t1035 t1036 _ A59.out).mono ?_); rintro e w66 ⟨rfl, hb⟩; refine ⟨_, rfl, ?_⟩; replace BK1020 := kb BK1020 hb; replace BK1021 := kb BK1021 hb; replace BK1022 := kb BK1022 hb; replace HB := sb HB hb; clear hb) | ((with_reducible refine gate_callee (f := 16) rfl ?_); refine gl_ (some 47) Tryz.func16 (by kernel_rfl) #[.bool (t1035 == 0)] rfl ?_; (with_reducible refine (soffitref10_Truth.calls (t1035 == 0) t1037 t1038 t1039 t1040 t1041 _ A60.out).mono ?_); rintro e w67 ⟨rfl, hb⟩; refine ⟨_, rfl, ?_⟩; replace BK1020 := kb BK1020 hb; replace BK1021 := kb BK1021 hb; replace BK1022 := kb BK1022 hb; replace HB := sb HB hb; clear hb; obtain ⟨Z68_0, Z68_1, Z68_2, Z68_3, Z68_4, F68_0, F68_1, F68_2, F68_3, F68_4⟩ := cz5 BK1022.out))
      refine bodyPost_ret (results_cell_row rfl _ _ gb1022 25 #[.int .i64 t1037, .int .i64 t1038, .int .i64 t1039, .string t1040, .int .i64 t1041] (0, 0) _ rfl (bp BK1022.out) Tryz.underlying25 rfl (by kernel_rfl)) rfl ?_
      exact ⟨az, bz HB.out⟩
     replace H := ine c58 H
     obtain ⟨H, c58b0, c58b1⟩ := H
     (first | rw [c58b0] | (simp only [i64_w, i32_w]; rw [c58b0]) | skip)
     simp only [Option.some.injEq, Prod.mk.injEq] at H
     obtain ⟨rfl, rfl, rfl, rfl, rfl⟩ := H
     have hnb69 := NB1022_1020.out
     have hnc69 := NB1020_1022.out
     have hnb70 := NB1022_1021.out
     have hnc70 := NB1021_1022.out
     obtain ⟨Z71_0, Z71_1, Z71_2, Z71_3, Z71_4, F71_0, F71_1, F71_2, F71_3, F71_4⟩ := cz5 BK1022.out
     go_wp2
     refine bodyPost_ret (results_cell_row rfl _ _ gb1022 25 #[.int .i64 0, .int .i64 0, .int .i64 0, .string (⟨#[]⟩ : ByteArray), .int .i64 0] (0, 0) _ rfl (bp BK1022.out) Tryz.underlying25 rfl (by kernel_rfl)) rfl ?_
     exact ⟨az, bz HB.out⟩
end Go.Proofs.YtgkemhgihbfmmaaGreatDoor.PA
end
section
namespace Go.Proofs.YtgkemhgihbfmmaaGreatDoor.PA
open Go.RowKit Go.Proofs.YtgkemhgihbfmmaaGreatDoorW.PrintWords Go.Proofs.YtgkemhgihbfmmaaGreatDoorW.PrintLast Go.Proofs.YtgkemhgihbfmmaaGreatDoorW.PrintMore
attribute [local go_sem] max2_int min2_int max_two min_two max_three min_three max_four min_four isSome_set str_gtr
set_option linter.unusedVariables false
set_option linter.unusedSimpArgs false
def soffitref11_Less.j0 : Nat → Bool → Int → Int → Int → ByteArray → Int → Int → Int → Int → ByteArray → Int → Option (Int × Int × Int × ByteArray × Int)
 | 0, _, _, _, _, _, _, _, _, _, _, _ => none
 | k + 1, x31, x1043000, x1043001, x1043002, x1043003, x1043004, x1044000, x1044001, x1044002, x1044003, x1044004 => if x31 = true then (some (0, 0, 0, (⟨#[]⟩ : ByteArray), 0)) else ((soffitref04_Compare.f k x1043000 x1043001 x1043002 x1043003 x1043004 x1044000 x1044001 x1044002 x1044003 x1044004).bind fun bt1047 => ((soffitref10_Truth.f (bt1047.1 == (-1))).bind fun bt1049 => (some (bt1049.1, bt1049.2.1, bt1049.2.2.1, bt1049.2.2.2.1, bt1049.2.2.2.2))))
def soffitref11_Less.f (k : Nat) (a0_0 a0_1 a0_2 : Int) (a0_3 : ByteArray) (a0_4 a1_0 a1_1 a1_2 : Int) (a1_3 : ByteArray) (a1_4 : Int) : Option (Int × Int × Int × ByteArray × Int) := (soffitref04_Sound.f k a0_0 a0_1 a0_2 a0_3 a0_4).bind fun t1045 => (if t1045 = true then ((soffitref04_Sound.f k a1_0 a1_1 a1_2 a1_3 a1_4).bind fun t1046 => (if t1046 = true then (if a0_0 = a1_0 then (if a0_0 = 0 then (soffitref11_Less.j0 k true a0_0 a0_1 a0_2 a0_3 a0_4 a1_0 a1_1 a1_2 a1_3 a1_4) else (soffitref11_Less.j0 k (a0_0 == 3) a0_0 a0_1 a0_2 a0_3 a0_4 a1_0 a1_1 a1_2 a1_3 a1_4)) else (soffitref11_Less.j0 k true a0_0 a0_1 a0_2 a0_3 a0_4 a1_0 a1_1 a1_2 a1_3 a1_4)) else (soffitref11_Less.j0 k true a0_0 a0_1 a0_2 a0_3 a0_4 a1_0 a1_1 a1_2 a1_3 a1_4))) else (soffitref11_Less.j0 k true a0_0 a0_1 a0_2 a0_3 a0_4 a1_0 a1_1 a1_2 a1_3 a1_4))
set_option maxHeartbeats 8000000 in
set_option maxRecDepth 100000 in
theorem soffitref11_Less.calls (k : Nat) (a0_0 a0_1 a0_2 : Int) (a0_3 : ByteArray) (a0_4 a1_0 a1_1 a1_2 : Int) (a1_3 : ByteArray) (a1_4 r1 r2 r3 : Int) (r4 : ByteArray) (r5 : Int) (w : World) (h : soffitref11_Less.f k a0_0 a0_1 a0_2 a0_3 a0_4 a1_0 a1_1 a1_2 a1_3 a1_4 = some (r1, r2, r3, r4, r5)) :
  Calls Tryz.prog 29 #[.agg #[.int .i64 a0_0, .int .i64 a0_1, .int .i64 a0_2, .string a0_3, .int .i64 a0_4], .agg #[.int .i64 a1_0, .int .i64 a1_1, .int .i64 a1_2, .string a1_3, .int .i64 a1_4]] w fun e w' => e = .returned (.agg #[.int .i64 r1, .int .i64 r2, .int .i64 r3, .string r4, .int .i64 r5]) ∧ Below w.heap.size w w' := by
 have hu25 := Tryz.underlying25
 have HB := am (Below.refl w.heap.size w)
 have H : ((soffitref04_Sound.f k a0_0 a0_1 a0_2 a0_3 a0_4).bind fun t1045 => (if t1045 = true then ((soffitref04_Sound.f k a1_0 a1_1 a1_2 a1_3 a1_4).bind fun t1046 => (if t1046 = true then (if a0_0 = a1_0 then (if a0_0 = 0 then (soffitref11_Less.j0 k true a0_0 a0_1 a0_2 a0_3 a0_4 a1_0 a1_1 a1_2 a1_3 a1_4) else (soffitref11_Less.j0 k (a0_0 == 3) a0_0 a0_1 a0_2 a0_3 a0_4 a1_0 a1_1 a1_2 a1_3 a1_4)) else (soffitref11_Less.j0 k true a0_0 a0_1 a0_2 a0_3 a0_4 a1_0 a1_1 a1_2 a1_3 a1_4)) else (soffitref11_Less.j0 k true a0_0 a0_1 a0_2 a0_3 a0_4 a1_0 a1_1 a1_2 a1_3 a1_4))) else (soffitref11_Less.j0 k true a0_0 a0_1 a0_2 a0_3 a0_4 a1_0 a1_1 a1_2 a1_3 a1_4))) = some (r1, r2, r3, r4, r5) := h
 clear h
 have HC3 := am H
 clear H
 go_enter Tryz.func29, Tryz.ntmps29
 go_upto_region 1 with (first | ((with_reducible refine gate_dst (N := 2) rfl ?_); refine bev (#[.int .i64 a0_0, .int .i64 a0_1, .int .i64 a0_2, .string a0_3, .int .i64 a0_4]) 25 ?_; intro gb1042 hg w4 hbox hb; have BK1042 := am (hbox); have GW1042 := gs hg HB; have GE1042 := GW1042; replace HB := sb HB hb; clear hb hbox hg) | ((with_reducible refine gate_dst (N := 3) rfl ?_); refine bev (#[.int .i64 a1_0, .int .i64 a1_1, .int .i64 a1_2, .string a1_3, .int .i64 a1_4]) 25 ?_; intro gb1043 hg w5 hbox hb; have BK1043 := am (hbox); have GW1043 := gs hg HB; have GE1043 := GW1043; replace HB := sb HB hb; have NB1042_1043 := na hg BK1042; have NB1043_1042 := nb hg BK1042; replace BK1042 := kb BK1042 hb; clear hb hbox hg) | ((with_reducible refine gate_dst (N := 4) rfl ?_); refine bev (#[.int .i64 0, .int .i64 0, .int .i64 0, .string (⟨#[]⟩ : ByteArray), .int .i64 0]) 25 ?_; intro gb1044 hg w6 hbox hb; have BK1044 := am (hbox); have GW1044 := gs hg HB; have GE1044 := GW1044; replace HB := sb HB hb; have NB1042_1044 := na hg BK1042; have NB1044_1042 := nb hg BK1042; replace BK1042 := kb BK1042 hb; have NB1043_1044 := na hg BK1043; have NB1044_1043 := nb hg BK1043; replace BK1043 := kb BK1043 hb; clear hb hbox hg))
 (try simp only [Act.put, List.setIfInBounds_toArray, List.set_cons_zero, List.set_cons_succ])
 go_cut [31] (fun v31 wc => ∃ (kq : Nat) (x31_2 : Bool), v31 = .bool x31_2 ∧ Aside0 (soffitref11_Less.j0 kq x31_2 a0_0 a0_1 a0_2 a0_3 a0_4 a1_0 a1_1 a1_2 a1_3 a1_4 = some (r1, r2, r3, r4, r5)) ∧ Aside0 (kq ≤ k) ∧ Aside0 (wc.heap[gb1042]? = some (.cells #[.int .i64 a0_0, .int .i64 a0_1, .int .i64 a0_2, .string a0_3, .int .i64 a0_4] 25 (0, 0))) ∧ Aside0 (wc.heap[gb1043]? = some (.cells #[.int .i64 a1_0, .int .i64 a1_1, .int .i64 a1_2, .string a1_3, .int .i64 a1_4] 25 (0, 0))) ∧ Aside0 (wc.heap[gb1044]? = some (.cells #[.int .i64 0, .int .i64 0, .int .i64 0, .string (⟨#[]⟩ : ByteArray), .int .i64 0] 25 (0, 0))) ∧ Aside0 (Below w.heap.size w wc))
 case first =>
  have H := HC3.out
  clear HC3
  replace H := obe H
  obtain ⟨t1045, A7, H⟩ := H
  by_cases c8 : t1045 = true
  ·subst c8
   replace H := ift H
   replace H := obe H
   obtain ⟨t1046, A9, H⟩ := H
   by_cases c10 : t1046 = true
   ·subst c10
    replace H := ift H
    by_cases c11 : a0_0 = a1_0
    ·replace H := ipe c11 H
     obtain ⟨H, c11b0, c11b1⟩ := H
     clear c11
     (first | rw [c11b0] | (simp only [i64_w, i32_w]; rw [c11b0]) | skip)
     by_cases c12 : a0_0 = 0
     ·replace H := ipe c12 H
      obtain ⟨H, c12b0, c12b1⟩ := H
      clear c12
      have H' := am H
      clear H
      have hnb13 := NB1042_1043.out
      have hnc13 := NB1043_1042.out
      have hnb14 := NB1042_1044.out
      have hnc14 := NB1044_1042.out
      obtain ⟨Z15_0, Z15_1, Z15_2, Z15_3, Z15_4, F15_0, F15_1, F15_2, F15_3, F15_4⟩ := cz5 BK1042.out
      go_wp2_with (first | ((with_reducible refine gate_callee (f := 15) rfl ?_); refine gl_ (some 8) Tryz.func15 (by kernel_rfl) #[.agg #[.int .i64 a0_0, .int .i64 a0_1, .int .i64 a0_2, .string a0_3, .int .i64 a0_4]] rfl ?_; (with_reducible refine (soffitref04_Sound.calls k a0_0 a0_1 a0_2 a0_3 a0_4 true _ A7.out).mono ?_); rintro e w16 ⟨rfl, hb⟩; refine ⟨_, rfl, ?_⟩; replace BK1042 := kb BK1042 hb; replace BK1043 := kb BK1043 hb; replace BK1044 := kb BK1044 hb; replace HB := sb HB hb; clear hb; have hnb17 := NB1043_1044.out; have hnc17 := NB1044_1043.out; obtain ⟨Z18_0, Z18_1, Z18_2, Z18_3, Z18_4, F18_0, F18_1, F18_2, F18_3, F18_4⟩ := cz5 BK1043.out) | (go_at_call 15; (with_reducible refine (soffitref04_Sound.calls k a1_0 a1_1 a1_2 a1_3 a1_4 true _ A9.out).mono ?_); rintro e w19 ⟨rfl, hb⟩; replace BK1042 := kb BK1042 hb; replace BK1043 := kb BK1043 hb; replace BK1044 := kb BK1044 hb; replace HB := sb HB hb; clear hb; obtain ⟨Z20_0, Z20_1, Z20_2, Z20_3, Z20_4, F20_0, F20_1, F20_2, F20_3, F20_4⟩ := cz5 BK1042.out; obtain ⟨Z21_0, Z21_1, Z21_2, Z21_3, Z21_4, F21_0, F21_1, F21_2, F21_3, F21_4⟩ := cz5 BK1043.out))
      go_meet
      case rel => exact ⟨_, (true), sz, H', ⟨oz⟩, ⟨bk BK1042.out⟩, ⟨bk BK1043.out⟩, ⟨bk BK1044.out⟩, ⟨bz HB.out⟩⟩
     replace H := ine c12 H
     obtain ⟨H, c12b0, c12b1⟩ := H
     have H' := am H
     clear H
     have hnb22 := NB1042_1043.out
     have hnc22 := NB1043_1042.out
     have hnb23 := NB1042_1044.out
     have hnc23 := NB1044_1042.out
     obtain ⟨Z24_0, Z24_1, Z24_2, Z24_3, Z24_4, F24_0, F24_1, F24_2, F24_3, F24_4⟩ := cz5 BK1042.out
     go_wp2_with (first | ((with_reducible refine gate_callee (f := 15) rfl ?_); refine gl_ (some 8) Tryz.func15 (by kernel_rfl) #[.agg #[.int .i64 a0_0, .int .i64 a0_1, .int .i64 a0_2, .string a0_3, .int .i64 a0_4]] rfl ?_; (with_reducible refine (soffitref04_Sound.calls k a0_0 a0_1 a0_2 a0_3 a0_4 true _ A7.out).mono ?_); rintro e w25 ⟨rfl, hb⟩; refine ⟨_, rfl, ?_⟩; replace BK1042 := kb BK1042 hb; replace BK1043 := kb BK1043 hb; replace BK1044 := kb BK1044 hb; replace HB := sb HB hb; clear hb; have hnb26 := NB1043_1044.out; have hnc26 := NB1044_1043.out; obtain ⟨Z27_0, Z27_1, Z27_2, Z27_3, Z27_4, F27_0, F27_1, F27_2, F27_3, F27_4⟩ := cz5 BK1043.out) | (go_at_call 15; (with_reducible refine (soffitref04_Sound.calls k a1_0 a1_1 a1_2 a1_3 a1_4 true _ A9.out).mono ?_); rintro e w28 ⟨rfl, hb⟩; replace BK1042 := kb BK1042 hb; replace BK1043 := kb BK1043 hb; replace BK1044 := kb BK1044 hb; replace HB := sb HB hb; clear hb; obtain ⟨Z29_0, Z29_1, Z29_2, Z29_3, Z29_4, F29_0, F29_1, F29_2, F29_3, F29_4⟩ := cz5 BK1042.out; obtain ⟨Z30_0, Z30_1, Z30_2, Z30_3, Z30_4, F30_0, F30_1, F30_2, F30_3, F30_4⟩ := cz5 BK1043.out))
     go_meet
     case rel => exact ⟨_, ((a0_0 == 3)), sz, H', ⟨oz⟩, ⟨bk BK1042.out⟩, ⟨bk BK1043.out⟩, ⟨bk BK1044.out⟩, ⟨bz HB.out⟩⟩
    replace H := ine c11 H
    obtain ⟨H, c11b0, c11b1⟩ := H
    (first | rw [c11b0] | (simp only [i64_w, i32_w]; rw [c11b0]) | skip)
    have H' := am H
    clear H
    have hnb31 := NB1042_1043.out
    have hnc31 := NB1043_1042.out
    have hnb32 := NB1042_1044.out
    have hnc32 := NB1044_1042.out
    obtain ⟨Z33_0, Z33_1, Z33_2, Z33_3, Z33_4, F33_0, F33_1, F33_2, F33_3, F33_4⟩ := cz5 BK1042.out
    go_wp2_with (first | ((with_reducible refine gate_callee (f := 15) rfl ?_); refine gl_ (some 8) Tryz.func15 (by kernel_rfl) #[.agg #[.int .i64 a0_0, .int .i64 a0_1, .int .i64 a0_2, .string a0_3, .int .i64 a0_4]] rfl ?_; (with_reducible refine (soffitref04_Sound.calls k a0_0 a0_1 a0_2 a0_3 a0_4 true _ A7.out).mono ?_); rintro e w34 ⟨rfl, hb⟩; refine ⟨_, rfl, ?_⟩; replace BK1042 := kb BK1042 hb; replace BK1043 := kb BK1043 hb; replace BK1044 := kb BK1044 hb; replace HB := sb HB hb; clear hb; have hnb35 := NB1043_1044.out; have hnc35 := NB1044_1043.out; obtain ⟨Z36_0, Z36_1, Z36_2, Z36_3, Z36_4, F36_0, F36_1, F36_2, F36_3, F36_4⟩ := cz5 BK1043.out) | (go_at_call 15; (with_reducible refine (soffitref04_Sound.calls k a1_0 a1_1 a1_2 a1_3 a1_4 true _ A9.out).mono ?_); rintro e w37 ⟨rfl, hb⟩; replace BK1042 := kb BK1042 hb; replace BK1043 := kb BK1043 hb; replace BK1044 := kb BK1044 hb; replace HB := sb HB hb; clear hb; obtain ⟨Z38_0, Z38_1, Z38_2, Z38_3, Z38_4, F38_0, F38_1, F38_2, F38_3, F38_4⟩ := cz5 BK1042.out; obtain ⟨Z39_0, Z39_1, Z39_2, Z39_3, Z39_4, F39_0, F39_1, F39_2, F39_3, F39_4⟩ := cz5 BK1043.out))
    go_meet
    case rel => exact ⟨_, (true), sz, H', ⟨oz⟩, ⟨bk BK1042.out⟩, ⟨bk BK1043.out⟩, ⟨bk BK1044.out⟩, ⟨bz HB.out⟩⟩
   replace c10 := Bool.eq_false_iff.mpr c10
   subst c10
   replace H := iff_ H
   have H' := am H
   clear H
   have hnb40 := NB1042_1043.out
   have hnc40 := NB1043_1042.out
   have hnb41 := NB1042_1044.out
   have hnc41 := NB1044_1042.out
   obtain ⟨Z42_0, Z42_1, Z42_2, Z42_3, Z42_4, F42_0, F42_1, F42_2, F42_3, F42_4⟩ := cz5 BK1042.out
   go_wp2_with (first | ((with_reducible refine gate_callee (f := 15) rfl ?_); refine gl_ (some 8) Tryz.func15 (by kernel_rfl) #[.agg #[.int .i64 a0_0, .int .i64 a0_1, .int .i64 a0_2, .string a0_3, .int .i64 a0_4]] rfl ?_; (with_reducible refine (soffitref04_Sound.calls k a0_0 a0_1 a0_2 a0_3 a0_4 true _ A7.out).mono ?_); rintro e w43 ⟨rfl, hb⟩; refine ⟨_, rfl, ?_⟩; replace BK1042 := kb BK1042 hb; replace BK1043 := kb BK1043 hb; replace BK1044 := kb BK1044 hb; replace HB := sb HB hb; clear hb; have hnb44 := NB1043_1044.out; have hnc44 := NB1044_1043.out; obtain ⟨Z45_0, Z45_1, Z45_2, Z45_3, Z45_4, F45_0, F45_1, F45_2, F45_3, F45_4⟩ := cz5 BK1043.out) | (go_at_call 15; (with_reducible refine (soffitref04_Sound.calls k a1_0 a1_1 a1_2 a1_3 a1_4 false _ A9.out).mono ?_); rintro e w46 ⟨rfl, hb⟩; replace BK1042 := kb BK1042 hb; replace BK1043 := kb BK1043 hb; replace BK1044 := kb BK1044 hb; replace HB := sb HB hb; clear hb))
   go_meet
   case rel => exact ⟨_, (true), sz, H', ⟨oz⟩, ⟨bk BK1042.out⟩, ⟨bk BK1043.out⟩, ⟨bk BK1044.out⟩, ⟨bz HB.out⟩⟩
  replace c8 := Bool.eq_false_iff.mpr c8
  subst c8
  replace H := iff_ H
  have H' := am H
  clear H
  have hnb47 := NB1042_1043.out
  have hnc47 := NB1043_1042.out
  have hnb48 := NB1042_1044.out
  have hnc48 := NB1044_1042.out
  obtain ⟨Z49_0, Z49_1, Z49_2, Z49_3, Z49_4, F49_0, F49_1, F49_2, F49_3, F49_4⟩ := cz5 BK1042.out
  go_wp2_with (first | ((with_reducible refine gate_callee (f := 15) rfl ?_); refine gl_ (some 8) Tryz.func15 (by kernel_rfl) #[.agg #[.int .i64 a0_0, .int .i64 a0_1, .int .i64 a0_2, .string a0_3, .int .i64 a0_4]] rfl ?_; (with_reducible refine (soffitref04_Sound.calls k a0_0 a0_1 a0_2 a0_3 a0_4 false _ A7.out).mono ?_); rintro e w50 ⟨rfl, hb⟩; refine ⟨_, rfl, ?_⟩; replace BK1042 := kb BK1042 hb; replace BK1043 := kb BK1043 hb; replace BK1044 := kb BK1044 hb; replace HB := sb HB hb; clear hb))
  go_meet
  case rel => exact ⟨_, (true), sz, H', ⟨oz⟩, ⟨bk BK1042.out⟩, ⟨bk BK1043.out⟩, ⟨bk BK1044.out⟩, ⟨bz HB.out⟩⟩
 case rest =>
  clear HC3
  skip
  obtain ⟨kq, x31_2, rfl, HA, HJ2, BK1042, BK1043, BK1044, HB⟩ := hcut
  cases kq with
  | zero => exact absurd HA.out (by simp [soffitref11_Less.j0])
  | succ kj2 =>
   have H := HA.out
   clear HA
   simp only [soffitref11_Less.j0] at H
   by_cases c51 : x31_2 = true
   ·subst c51
    replace H := ift H
    simp only [Option.some.injEq, Prod.mk.injEq] at H
    obtain ⟨rfl, rfl, rfl, rfl, rfl⟩ := H
    have hnb52 := NB1044_1042.out
    have hnc52 := NB1042_1044.out
    have hnb53 := NB1044_1043.out
    have hnc53 := NB1043_1044.out
    obtain ⟨Z54_0, Z54_1, Z54_2, Z54_3, Z54_4, F54_0, F54_1, F54_2, F54_3, F54_4⟩ := cz5 BK1044.out
    go_wp2
    refine bodyPost_ret (results_cell_row rfl _ _ gb1044 25 #[.int .i64 0, .int .i64 0, .int .i64 0, .string (⟨#[]⟩ : ByteArray), .int .i64 0] (0, 0) _ rfl (bp BK1044.out) Tryz.underlying25 rfl (by kernel_rfl)) rfl ?_
    exact ⟨az, bz HB.out⟩
   replace c51 := Bool.eq_false_iff.mpr c51
   subst c51
   replace H := iff_ H
   replace H := obe2 H
   obtain ⟨t1047, t1048, A55, H⟩ := H
   replace H := obe5 H
   obtain ⟨t1049, t1050, t1051, t1052, t1053, A56, H⟩ := H
   simp only [Option.some.injEq, Prod.mk.injEq] at H
   obtain ⟨rfl, rfl, rfl, rfl, rfl⟩ := H
   have hnb57 := NB1042_1043.out
   have hnc57 := NB1043_1042.out
   have hnb58 := NB1042_1044.out
   have hnc58 := NB1044_1042.out
   obtain ⟨Z59_0, Z59_1, Z59_2, Z59_3, Z59_4, F59_0, F59_1, F59_2, F59_3, F59_4⟩ := cz5 BK1042.out
   have hnb60 := NB1043_1044.out
   have hnc60 := NB1044_1043.out
   obtain ⟨Z61_0, Z61_1, Z61_2, Z61_3, Z61_4, F61_0, F61_1, F61_2, F61_3, F61_4⟩ := cz5 BK1043.out
   go_wp2_with (first | ((with_reducible refine gate_callee (f := 60) rfl ?_); refine gl_ (some 36) Tryz.func60 (by kernel_rfl) #[.agg #[.int .i64 a0_0, .int .i64 a0_1, .int .i64 a0_2, .string a0_3, .int .i64 a0_4], .agg #[.int .i64 a1_0, .int .i64 a1_1, .int .i64 a1_2, .string a1_3, .int .i64 a1_4]] rfl ?_; (with_reducible refine (soffitref04_Compare.calls kj2 a0_0 a0_1 a0_2 a0_3 a0_4 a1_0 a1_1 a1_2 a1_3 a1_4 t1047 t1048 _ A55.out).mono ?_); rintro e w62 ⟨rfl, hb⟩; refine ⟨_, rfl, ?_⟩; replace BK1042 := kb BK1042 hb; replace BK1043 := kb BK1043 hb; replace BK1044 := kb BK1044 hb; replace HB := sb HB hb; clear hb) | ((with_reducible refine gate_callee (f := 16) rfl ?_); refine gl_ (some 41) Tryz.func16 (by kernel_rfl) #[.bool (t1047 == (-1))] rfl ?_; (with_reducible refine (soffitref10_Truth.calls (t1047 == (-1)) t1049 t1050 t1051 t1052 t1053 _ A56.out).mono ?_); rintro e w63 ⟨rfl, hb⟩; refine ⟨_, rfl, ?_⟩; replace BK1042 := kb BK1042 hb; replace BK1043 := kb BK1043 hb; replace BK1044 := kb BK1044 hb; replace HB := sb HB hb; clear hb; obtain ⟨Z64_0, Z64_1, Z64_2, Z64_3, Z64_4, F64_0, F64_1, F64_2, F64_3, F64_4⟩ := cz5 BK1044.out))
   refine bodyPost_ret (results_cell_row rfl _ _ gb1044 25 #[.int .i64 t1049, .int .i64 t1050, .int .i64 t1051, .string t1052, .int .i64 t1053] (0, 0) _ rfl (bp BK1044.out) Tryz.underlying25 rfl (by kernel_rfl)) rfl ?_
   exact ⟨az, bz HB.out⟩
end Go.Proofs.YtgkemhgihbfmmaaGreatDoor.PA
end
section
namespace Go.Proofs.YtgkemhgihbfmmaaGreatDoor.PA
open Go.RowKit Go.Proofs.YtgkemhgihbfmmaaGreatDoorW.PrintWords Go.Proofs.YtgkemhgihbfmmaaGreatDoorW.PrintLast Go.Proofs.YtgkemhgihbfmmaaGreatDoorW.PrintMore
attribute [local go_sem] max2_int min2_int max_two min_two max_three min_three max_four min_four isSome_set str_gtr
set_option linter.unusedVariables false
set_option linter.unusedSimpArgs false
attribute [local go_sem high] eqA25
def soffitlaw11_CalcCompares.f (k : Nat) (a0_0 a0_1 a0_2 : Int) (a0_3 : ByteArray) (a0_4 a1_0 a1_1 a1_2 : Int) (a1_3 : ByteArray) (a1_4 : Int) : Option (Bool) := (soffitlaw11_awake.f k).bind fun t1056 => (if t1056 = true then ((calc_Equal.f k a0_0 a0_1 a0_2 a0_3 a0_4 a1_0 a1_1 a1_2 a1_3 a1_4).bind fun bt1057 => ((soffitref11_Equal.f k a0_0 a0_1 a0_2 a0_3 a0_4 a1_0 a1_1 a1_2 a1_3 a1_4).bind fun bt1062 => (if (bt1057.1 == bt1062.1 && ((bt1057.2.1 == bt1062.2.1 && (bt1057.2.2.1 == bt1062.2.2.1)) && (bt1057.2.2.2.1.toList == bt1062.2.2.2.1.toList && (bt1057.2.2.2.2 == bt1062.2.2.2.2)))) = true then ((calc_Less.f k a0_0 a0_1 a0_2 a0_3 a0_4 a1_0 a1_1 a1_2 a1_3 a1_4).bind fun bt1067 => ((soffitref11_Less.f k a0_0 a0_1 a0_2 a0_3 a0_4 a1_0 a1_1 a1_2 a1_3 a1_4).bind fun bt1072 => (some (bt1067.1 == bt1072.1 && ((bt1067.2.1 == bt1072.2.1 && (bt1067.2.2.1 == bt1072.2.2.1)) && (bt1067.2.2.2.1.toList == bt1072.2.2.2.1.toList && (bt1067.2.2.2.2 == bt1072.2.2.2.2))))))) else (some false)))) else (some false))
def soffitlaw11_CalcCompares.T1 : Bool × List (List Nat × List Nat) := (true, [([], []), ([0, 0], [0]), ([1], [1]), ([1], [1]), ([2, 3, 1, 1], [1, 2, 3]), ([1], [1]), ([1], [1]), ([5, 6, 4, 1], [1, 5, 6]), ([4, 7, 1], [1, 4, 7]), ([1, 8], [1, 8]), ([9, 7], [9]), ([10], [10]), ([10], [10]), ([11, 12, 10, 10], [10, 11, 12]), ([10], [10]), ([10], [10]), ([14, 15, 13, 10], [10, 14, 15]), ([13, 16, 10], [10, 13, 16]), ([10, 17], [10, 17]), ([18, 16, 0, 1, 2, 3, 4, 5, 6, 7, 8, 9, 10, 11, 12, 13, 14, 15, 16, 17, 18], [18])])
def soffitlaw11_CalcCompares.B1 : List Nat := [0, 1, 3, 3, 15, 3, 3, 127, 255, 511, 1023, 2047, 2047, 8191, 2047, 2047, 65535, 131071, 262143, 524287]
theorem soffitlaw11_CalcCompares.tab1 : rtab .any (opsOf Tryz.f9 1) = soffitlaw11_CalcCompares.T1 := by kernel_rfl
theorem soffitlaw11_CalcCompares.bits1 : waitsOk soffitlaw11_CalcCompares.T1.2 soffitlaw11_CalcCompares.B1 = true := by kernel_rfl
set_option maxHeartbeats 8000000 in
set_option maxRecDepth 100000 in
theorem soffitlaw11_CalcCompares.calls (k : Nat) (a0_0 a0_1 a0_2 : Int) (a0_3 : ByteArray) (a0_4 a1_0 a1_1 a1_2 : Int) (a1_3 : ByteArray) (a1_4 : Int) (r : Bool) (w : World) (hT : Tabs w) (hr : r = true) (h : soffitlaw11_CalcCompares.f k a0_0 a0_1 a0_2 a0_3 a0_4 a1_0 a1_1 a1_2 a1_3 a1_4 = some r) :
  Calls Tryz.prog 9 #[.agg #[.int .i64 a0_0, .int .i64 a0_1, .int .i64 a0_2, .string a0_3, .int .i64 a0_4], .agg #[.int .i64 a1_0, .int .i64 a1_1, .int .i64 a1_2, .string a1_3, .int .i64 a1_4]] w fun e w' => e = .returned (.bool r) ∧ Below w.heap.size w w' := by
 have hu25 := Tryz.underlying25
 have HT := am hT
 clear hT
 have HR := am hr
 clear hr
 have HB := am (Below.refl w.heap.size w)
 have H : ((soffitlaw11_awake.f k).bind fun t1056 => (if t1056 = true then ((calc_Equal.f k a0_0 a0_1 a0_2 a0_3 a0_4 a1_0 a1_1 a1_2 a1_3 a1_4).bind fun bt1057 => ((soffitref11_Equal.f k a0_0 a0_1 a0_2 a0_3 a0_4 a1_0 a1_1 a1_2 a1_3 a1_4).bind fun bt1062 => (if (bt1057.1 == bt1062.1 && ((bt1057.2.1 == bt1062.2.1 && (bt1057.2.2.1 == bt1062.2.2.1)) && (bt1057.2.2.2.1.toList == bt1062.2.2.2.1.toList && (bt1057.2.2.2.2 == bt1062.2.2.2.2)))) = true then ((calc_Less.f k a0_0 a0_1 a0_2 a0_3 a0_4 a1_0 a1_1 a1_2 a1_3 a1_4).bind fun bt1067 => ((soffitref11_Less.f k a0_0 a0_1 a0_2 a0_3 a0_4 a1_0 a1_1 a1_2 a1_3 a1_4).bind fun bt1072 => (some (bt1067.1 == bt1072.1 && ((bt1067.2.1 == bt1072.2.1 && (bt1067.2.2.1 == bt1072.2.2.1)) && (bt1067.2.2.2.1.toList == bt1072.2.2.2.1.toList && (bt1067.2.2.2.2 == bt1072.2.2.2.2))))))) else (some false)))) else (some false))) = some r := h
 clear h
 have HC3 := am H
 clear H
 go_enter Tryz.func9, Tryz.ntmps9
 go_upto_region 1 with (first | ((with_reducible refine gate_dst (N := 2) rfl ?_); refine bev (#[.int .i64 a0_0, .int .i64 a0_1, .int .i64 a0_2, .string a0_3, .int .i64 a0_4]) 25 ?_; intro gb1054 hg w4 hbox hb; have BK1054 := am (hbox); have GW1054 := gs hg HB; have GE1054 := GW1054; replace HB := sb HB hb; clear hb hbox hg) | ((with_reducible refine gate_dst (N := 3) rfl ?_); refine bev (#[.int .i64 a1_0, .int .i64 a1_1, .int .i64 a1_2, .string a1_3, .int .i64 a1_4]) 25 ?_; intro gb1055 hg w5 hbox hb; have BK1055 := am (hbox); have GW1055 := gs hg HB; have GE1055 := GW1055; replace HB := sb HB hb; have NB1054_1055 := na hg BK1054; have NB1055_1054 := nb hg BK1054; replace BK1054 := kb BK1054 hb; clear hb hbox hg))
 (try simp only [Act.put, List.setIfInBounds_toArray, List.set_cons_zero, List.set_cons_succ])
 have H := HC3.out
 clear HC3
 replace H := obe H
 obtain ⟨t1056, A6, H⟩ := H
 by_cases c7 : t1056 = true
 ·subst c7
  replace H := ift H
  replace H := obe5 H
  obtain ⟨t1057, t1058, t1059, t1060, t1061, A8, H⟩ := H
  replace H := obe5 H
  obtain ⟨t1062, t1063, t1064, t1065, t1066, A9, H⟩ := H
  by_cases c10 : (t1057 == t1062 && ((t1058 == t1063 && (t1059 == t1064)) && (t1060.toList == t1065.toList && (t1061 == t1066)))) = true
  ·rw [if_pos c10] at H
   have c10b0 : (t1057 == t1062 && ((t1058 == t1063 && (t1059 == t1064)) && (t1060.toList == t1065.toList && (t1061 == t1066)))) = true := c10
   (try (have c10b1 : decide (t1057 = t1062 && ((t1058 == t1063 && (t1059 == t1064)) && (t1060.toList == t1065.toList && (t1061 == t1066)))) = true := by simpa using c10))
   (try (have c10b2 : (t1057 == t1062 && ((t1058 == t1063 && (t1059 == t1064)) && (t1060.toList == t1065.toList && (t1061 == t1066)))) = true := by simpa using c10))
   clear c10
   (first | rw [c10b0] | (simp only [i64_w, i32_w]; rw [c10b0]) | skip)
   replace H := obe5 H
   obtain ⟨t1067, t1068, t1069, t1070, t1071, A11, H⟩ := H
   replace H := obe5 H
   obtain ⟨t1072, t1073, t1074, t1075, t1076, A12, H⟩ := H
   obtain rfl := Option.some.inj H
   try go_wp2
   replace BK1054 := am (blk_drew BK1054.out)
   replace BK1055 := am (blk_drew BK1055.out)
   replace HB := am (below_drew1 HB.out)
   refine start_ (n := 20) (S := fun w' => w'.cell? ⟨gb1054, 0, none⟩ = some (.int .i64 a0_0) ∧ w'.cell? ⟨gb1054, 1, none⟩ = some (.int .i64 a0_1) ∧ w'.cell? ⟨gb1054, 2, none⟩ = some (.int .i64 a0_2) ∧ w'.cell? ⟨gb1054, 3, none⟩ = some (.string a0_3) ∧ w'.cell? ⟨gb1054, 4, none⟩ = some (.int .i64 a0_4) ∧ w'.cell? ⟨gb1055, 0, none⟩ = some (.int .i64 a1_0) ∧ w'.cell? ⟨gb1055, 1, none⟩ = some (.int .i64 a1_1) ∧ w'.cell? ⟨gb1055, 2, none⟩ = some (.int .i64 a1_2) ∧ w'.cell? ⟨gb1055, 3, none⟩ = some (.string a1_3) ∧ w'.cell? ⟨gb1055, 4, none⟩ = some (.int .i64 a1_4)) (ds := []) (bts0 20) (by kernel_rfl) rfl rfl ⟨(blk_cell BK1054.out 0).trans rfl, (blk_cell BK1054.out 1).trans rfl, (blk_cell BK1054.out 2).trans rfl, (blk_cell BK1054.out 3).trans rfl, (blk_cell BK1054.out 4).trans rfl, (blk_cell BK1055.out 0).trans rfl, (blk_cell BK1055.out 1).trans rfl, (blk_cell BK1055.out 2).trans rfl, (blk_cell BK1055.out 3).trans rfl, (blk_cell BK1055.out 4).trans rfl⟩ (fun hHeld => ?_); refine with_tabW soffitlaw11_CalcCompares.tab1 soffitlaw11_CalcCompares.bits1 (fun HT_ HW_ => ?_)
   generalize w5.drew = w13 at BK1054 BK1055 HB hHeld ⊢
   refine one_ (i := 0) (N := some 5) (bts 20 1) rfl rfl (one_of HT_.out (by kernel_rfl)) (by decide) (fun K hK => ?_)
   refine goes_ Tryz.func14 (by kernel_rfl) rfl #[] (by rfl) rfl rfl lz ?_
   with_reducible refine (soffitlaw11_awake.calls k  true _ ?side1 A6.out).mono ?_
   (case side1 => exact tabs_of HT.out (bz HB.out))
   rintro e w14 ⟨rfl, hb⟩
   refine ⟨_, rfl, ?_⟩
   replace BK1054 := kb BK1054 hb
   replace BK1055 := kb BK1055 hb
   replace HB := sb HB hb
   (try clear hb)
   (try clear hb2)
   (try clear hk)
   (try clear hi)
   refine hK.out _ _ ⟨(blk_cell BK1054.out 0).trans rfl, (blk_cell BK1054.out 1).trans rfl, (blk_cell BK1054.out 2).trans rfl, (blk_cell BK1054.out 3).trans rfl, (blk_cell BK1054.out 4).trans rfl, (blk_cell BK1055.out 0).trans rfl, (blk_cell BK1055.out 1).trans rfl, (blk_cell BK1055.out 2).trans rfl, (blk_cell BK1055.out 3).trans rfl, (blk_cell BK1055.out 4).trans rfl⟩ (fun hHeld => ?_)
   clear hK K
   refine norm_ (a' := ?_) ?_ ?_
   rotate_left
   ·show Act.put _ (some 5) _ = _
    simp only [Act.put, List.setIfInBounds_toArray, List.set_cons_zero, List.set_cons_succ, i64_w, i32_w]
    rfl
   refine pu 1 (some 6) (bts 20 3) (any_of HT_.out (by kernel_rfl)) ?_
   refine ta 2 (some 7) (bts 20 7) (take_ofW HT_.out HW_.out (by kernel_rfl)) hHeld ?_
   refine ta 3 (some 8) (bts 20 15) (take_ofW HT_.out HW_.out (by kernel_rfl)) hHeld ?_
   refine ta 5 (some 10) (bts 20 47) (take_ofW HT_.out HW_.out (by kernel_rfl)) hHeld ?_
   refine ta 6 (some 11) (bts 20 111) (take_ofW HT_.out HW_.out (by kernel_rfl)) hHeld ?_
   refine one_ (i := 4) (N := some 9) (bts 20 127) rfl rfl (one_of HT_.out (by kernel_rfl)) (by decide) (fun K hK => ?_)
   refine goes_ Tryz.func26 (by kernel_rfl) rfl #[.agg #[.int .i64 a0_0, .int .i64 a0_1, .int .i64 a0_2, .string a0_3, .int .i64 a0_4], .agg #[.int .i64 a1_0, .int .i64 a1_1, .int .i64 a1_2, .string a1_3, .int .i64 a1_4]] (by rfl) rfl rfl lz ?_
   with_reducible refine (calc_Equal.calls k a0_0 a0_1 a0_2 a0_3 a0_4 a1_0 a1_1 a1_2 a1_3 a1_4 t1057 t1058 t1059 t1060 t1061 _ ?side1 A8.out).mono ?_
   (case side1 => exact tabs_of HT.out (bz HB.out))
   rintro e w15 ⟨rfl, hb⟩
   refine ⟨_, rfl, ?_⟩
   replace BK1054 := kb BK1054 hb
   replace BK1055 := kb BK1055 hb
   replace HB := sb HB hb
   (try clear hb)
   (try clear hb2)
   (try clear hk)
   (try clear hi)
   refine hK.out _ _ ⟨(blk_cell BK1054.out 0).trans rfl, (blk_cell BK1054.out 1).trans rfl, (blk_cell BK1054.out 2).trans rfl, (blk_cell BK1054.out 3).trans rfl, (blk_cell BK1054.out 4).trans rfl, (blk_cell BK1055.out 0).trans rfl, (blk_cell BK1055.out 1).trans rfl, (blk_cell BK1055.out 2).trans rfl, (blk_cell BK1055.out 3).trans rfl, (blk_cell BK1055.out 4).trans rfl⟩ (fun hHeld => ?_)
   clear hK K
   refine norm_ (a' := ?_) ?_ ?_
   rotate_left
   ·show Act.put _ (some 9) _ = _
    simp only [Act.put, List.setIfInBounds_toArray, List.set_cons_zero, List.set_cons_succ, i64_w, i32_w]
    rfl
   refine one_ (i := 7) (N := some 12) (bts 20 255) rfl rfl (one_of HT_.out (by kernel_rfl)) (by decide) (fun K hK => ?_)
   refine goes_ Tryz.func27 (by kernel_rfl) rfl #[.agg #[.int .i64 a0_0, .int .i64 a0_1, .int .i64 a0_2, .string a0_3, .int .i64 a0_4], .agg #[.int .i64 a1_0, .int .i64 a1_1, .int .i64 a1_2, .string a1_3, .int .i64 a1_4]] (by rfl) rfl rfl lz ?_
   with_reducible refine (soffitref11_Equal.calls k a0_0 a0_1 a0_2 a0_3 a0_4 a1_0 a1_1 a1_2 a1_3 a1_4 t1062 t1063 t1064 t1065 t1066 _ A9.out).mono ?_
   rintro e w16 ⟨rfl, hb⟩
   refine ⟨_, rfl, ?_⟩
   replace BK1054 := kb BK1054 hb
   replace BK1055 := kb BK1055 hb
   replace HB := sb HB hb
   (try clear hb)
   (try clear hb2)
   (try clear hk)
   (try clear hi)
   refine hK.out _ _ ⟨(blk_cell BK1054.out 0).trans rfl, (blk_cell BK1054.out 1).trans rfl, (blk_cell BK1054.out 2).trans rfl, (blk_cell BK1054.out 3).trans rfl, (blk_cell BK1054.out 4).trans rfl, (blk_cell BK1055.out 0).trans rfl, (blk_cell BK1055.out 1).trans rfl, (blk_cell BK1055.out 2).trans rfl, (blk_cell BK1055.out 3).trans rfl, (blk_cell BK1055.out 4).trans rfl⟩ (fun hHeld => ?_)
   clear hK K
   refine norm_ (a' := ?_) ?_ ?_
   rotate_left
   ·show Act.put _ (some 12) _ = _
    simp only [Act.put, List.setIfInBounds_toArray, List.set_cons_zero, List.set_cons_succ, i64_w, i32_w]
    rfl
   refine pu 8 (some 13) (bts 20 511) (any_of HT_.out (by kernel_rfl)) ?_
   refine pu 9 (some 14) (bts 20 1023) (any_of HT_.out (by kernel_rfl)) ?_
   refine pu 10 (some 15) (bts 20 2047) (any_of HT_.out (by kernel_rfl)) ?_
   refine ta 11 (some 16) (bts 20 4095) (take_ofW HT_.out HW_.out (by kernel_rfl)) hHeld ?_
   refine ta 12 (some 17) (bts 20 8191) (take_ofW HT_.out HW_.out (by kernel_rfl)) hHeld ?_
   refine ta 14 (some 19) (bts 20 24575) (take_ofW HT_.out HW_.out (by kernel_rfl)) hHeld ?_
   refine ta 15 (some 20) (bts 20 57343) (take_ofW HT_.out HW_.out (by kernel_rfl)) hHeld ?_
   refine one_ (i := 13) (N := some 18) (bts 20 65535) rfl rfl (one_of HT_.out (by kernel_rfl)) (by decide) (fun K hK => ?_)
   refine goes_ Tryz.func28 (by kernel_rfl) rfl #[.agg #[.int .i64 a0_0, .int .i64 a0_1, .int .i64 a0_2, .string a0_3, .int .i64 a0_4], .agg #[.int .i64 a1_0, .int .i64 a1_1, .int .i64 a1_2, .string a1_3, .int .i64 a1_4]] (by rfl) rfl rfl lz ?_
   with_reducible refine (calc_Less.calls k a0_0 a0_1 a0_2 a0_3 a0_4 a1_0 a1_1 a1_2 a1_3 a1_4 t1067 t1068 t1069 t1070 t1071 _ ?side1 A11.out).mono ?_
   (case side1 => exact tabs_of HT.out (bz HB.out))
   rintro e w17 ⟨rfl, hb⟩
   refine ⟨_, rfl, ?_⟩
   replace BK1054 := kb BK1054 hb
   replace BK1055 := kb BK1055 hb
   replace HB := sb HB hb
   (try clear hb)
   (try clear hb2)
   (try clear hk)
   (try clear hi)
   refine hK.out _ _ ⟨(blk_cell BK1054.out 0).trans rfl, (blk_cell BK1054.out 1).trans rfl, (blk_cell BK1054.out 2).trans rfl, (blk_cell BK1054.out 3).trans rfl, (blk_cell BK1054.out 4).trans rfl, (blk_cell BK1055.out 0).trans rfl, (blk_cell BK1055.out 1).trans rfl, (blk_cell BK1055.out 2).trans rfl, (blk_cell BK1055.out 3).trans rfl, (blk_cell BK1055.out 4).trans rfl⟩ (fun hHeld => ?_)
   clear hK K
   refine norm_ (a' := ?_) ?_ ?_
   rotate_left
   ·show Act.put _ (some 18) _ = _
    simp only [Act.put, List.setIfInBounds_toArray, List.set_cons_zero, List.set_cons_succ, i64_w, i32_w]
    rfl
   refine one_ (i := 16) (N := some 21) (bts 20 131071) rfl rfl (one_of HT_.out (by kernel_rfl)) (by decide) (fun K hK => ?_)
   refine goes_ Tryz.func29 (by kernel_rfl) rfl #[.agg #[.int .i64 a0_0, .int .i64 a0_1, .int .i64 a0_2, .string a0_3, .int .i64 a0_4], .agg #[.int .i64 a1_0, .int .i64 a1_1, .int .i64 a1_2, .string a1_3, .int .i64 a1_4]] (by rfl) rfl rfl lz ?_
   with_reducible refine (soffitref11_Less.calls k a0_0 a0_1 a0_2 a0_3 a0_4 a1_0 a1_1 a1_2 a1_3 a1_4 t1072 t1073 t1074 t1075 t1076 _ A12.out).mono ?_
   rintro e w18 ⟨rfl, hb⟩
   refine ⟨_, rfl, ?_⟩
   replace BK1054 := kb BK1054 hb
   replace BK1055 := kb BK1055 hb
   replace HB := sb HB hb
   (try clear hb)
   (try clear hb2)
   (try clear hk)
   (try clear hi)
   refine hK.out _ _ ⟨(blk_cell BK1054.out 0).trans rfl, (blk_cell BK1054.out 1).trans rfl, (blk_cell BK1054.out 2).trans rfl, (blk_cell BK1054.out 3).trans rfl, (blk_cell BK1054.out 4).trans rfl, (blk_cell BK1055.out 0).trans rfl, (blk_cell BK1055.out 1).trans rfl, (blk_cell BK1055.out 2).trans rfl, (blk_cell BK1055.out 3).trans rfl, (blk_cell BK1055.out 4).trans rfl⟩ (fun hHeld => ?_)
   clear hK K
   refine norm_ (a' := ?_) ?_ ?_
   rotate_left
   ·show Act.put _ (some 21) _ = _
    simp only [Act.put, List.setIfInBounds_toArray, List.set_cons_zero, List.set_cons_succ, i64_w, i32_w]
    rfl
   refine pu 17 (some 22) (bts 20 262143) (any_of HT_.out (by kernel_rfl)) ?_
   refine pu 18 (some 23) (bts 20 524287) (any_of HT_.out (by kernel_rfl)) ?_
   refine pu 19 (some 4) (bts 20 1048575) (any_of HT_.out (by kernel_rfl)) ?_
   refine done_ (done_of HT_.out (by kernel_rfl)) ?_
   try go_wp2
   go_ret
   exact ⟨az, bz HB.out⟩
  rw [if_neg c10] at H
  have c10b0 : (t1057 == t1062 && ((t1058 == t1063 && (t1059 == t1064)) && (t1060.toList == t1065.toList && (t1061 == t1066)))) = false := by simpa using c10
  (try (have c10b1 : decide (t1057 = t1062 && ((t1058 == t1063 && (t1059 == t1064)) && (t1060.toList == t1065.toList && (t1061 == t1066)))) = false := by simpa using c10))
  (try (have c10b2 : (t1057 == t1062 && ((t1058 == t1063 && (t1059 == t1064)) && (t1060.toList == t1065.toList && (t1061 == t1066)))) = false := by simpa using c10))
  (try (have c10b3 : ¬ (t1057 = t1062 && ((t1058 == t1063 && (t1059 == t1064)) && (t1060.toList == t1065.toList && (t1061 == t1066)))) := by simpa using c10))
  clear c10
  (first | rw [c10b0] | (simp only [i64_w, i32_w]; rw [c10b0]) | skip)
  exact absurd HR.out (by rw [← Option.some.inj H]; simp)
 replace c7 := Bool.eq_false_iff.mpr c7
 subst c7
 replace H := iff_ H
 exact absurd HR.out (by rw [← Option.some.inj H]; simp)
end Go.Proofs.YtgkemhgihbfmmaaGreatDoor.PA
end
section
namespace Go.Proofs.YtgkemhgihbfmmaaGreatDoor.PA
open Go.RowKit Go.Proofs.YtgkemhgihbfmmaaGreatDoorW.PrintWords Go.Proofs.YtgkemhgihbfmmaaGreatDoorW.PrintLast Go.Proofs.YtgkemhgihbfmmaaGreatDoorW.PrintMore
attribute [local go_sem] max2_int min2_int max_two min_two max_three min_three max_four min_four
set_option linter.unusedVariables false
set_option linter.unusedSimpArgs false
end Go.Proofs.YtgkemhgihbfmmaaGreatDoor.PA
end
section
namespace Go.Proofs.YtgkemhgihbfmmaaGreatDoor.M
def sh : Nat → Int → Int × Int
  | 0, n => (n, 0)
  | s + 1, n => if n % 10 = 0 then sh s (n / 10) else (n, (s : Int) + 1)
theorem sh_id (s : Nat) (n : Int) (h : s = 0 ∨ n % 10 ≠ 0) : sh s n = (n, (s : Int)) := by
  cases s with
  | zero => rfl
  | succ s =>
    have h' : ¬ n % 10 = 0 := by omega
    simp [sh, h']
theorem sh_neg (s : Nat) : ∀ n : Int, sh s (-n) = (-(sh s n).1, (sh s n).2) := by
  induction s with
  | zero => intro n; rfl
  | succ s ih =>
    intro n
    by_cases h : n % 10 = 0
    · have h2 : (-n) % 10 = 0 := by omega
      have h3 : (-n) / 10 = -(n / 10) := by omega
      simp only [sh, h, h2, if_true, h3, ih]
    · have h2 : ¬ (-n) % 10 = 0 := by omega
      simp only [sh, h, h2, if_false]
theorem sh_spec (s : Nat) : ∀ n : Int, ∃ t : Nat, t ≤ s ∧ (sh s n).2 = ((s - t : Nat) : Int) ∧ n = (sh s n).1 * 10 ^ t ∧ ((sh s n).2 = 0 ∨ (sh s n).1 % 10 ≠ 0) := by
  induction s with
  | zero => intro n; exact ⟨0, Nat.le_refl _, rfl, by simp [sh], .inl rfl⟩
  | succ s ih =>
    intro n
    by_cases h : n % 10 = 0
    · obtain ⟨t, h1, h2, h3, h4⟩ := ih (n / 10)
      refine ⟨t + 1, by omega, ?_, ?_, ?_⟩
      · simp only [sh, h, if_true]; rw [h2]; congr 1; omega
      · simp only [sh, h, if_true]
        have e : n = (n / 10) * 10 := by omega
        rw [Int.pow_succ, ← Int.mul_assoc, ← h3]; exact e
      · simp only [sh, h, if_true]; exact h4
    · refine ⟨0, Nat.zero_le _, ?_, ?_, ?_⟩
      · simp [sh, h]
      · simp [sh, h]
      · simp only [sh, h, if_false]; exact .inr h
theorem sh_nonneg (s : Nat) : ∀ n : Int, 0 ≤ n → 0 ≤ (sh s n).1 ∧ (sh s n).1 ≤ n := by
  induction s with
  | zero => intro n h; simp only [sh]; omega
  | succ s ih =>
    intro n h
    by_cases h1 : n % 10 = 0
    · have := ih (n / 10) (by omega)
      simp only [sh, h1, if_true]; omega
    · simp only [sh, h1, if_false]; omega
def decS (n : Int) (s : Nat) (m : Bool) : Int × Int × Int :=
  if 999999999999 < (sh s n).1 then (0, 0, 3) else (if m = true then -(sh s n).1 else (sh s n).1, (sh s n).2, 0)
def Snd (n s : Int) : Prop := 0 ≤ s ∧ s ≤ 6 ∧ -999999999999 ≤ n ∧ n ≤ 999999999999 ∧ (s = 0 ∨ n % 10 ≠ 0)
instance (n s : Int) : Decidable (Snd n s) := by unfold Snd; infer_instance
def mk (n s : Int) : Int × Int × Int :=
  if s < 0 ∨ 6 < s ∨ 999999999999 < n ∨ n < -999999999999 then (0, 0, 3) else ((sh s.toNat n).1, (sh s.toNat n).2, 0)
theorem mk_sound (n s : Int) (h : Snd n s) : mk n s = (n, s, 0) := by
  obtain ⟨h0, h1, h2, h3, h4⟩ := h
  unfold mk; rw [if_neg (by omega)]
  rw [sh_id s.toNat n (by omega)]; simp only [Prod.mk.injEq, and_true, true_and]; omega
theorem mk_unsound (n s : Int) (h : ¬ Snd n s) : ¬ ((mk n s).2.2 = 0 ∧ (mk n s).1 = n ∧ (mk n s).2.1 = s) := by
  unfold mk
  by_cases h1 : s < 0 ∨ 6 < s ∨ 999999999999 < n ∨ n < -999999999999
  · rw [if_pos h1]; simp
  · rw [if_neg h1]
    rintro ⟨_, h2, h3⟩
    apply h
    refine ⟨by omega, by omega, by omega, by omega, ?_⟩
    obtain ⟨t, _, _, _, h4⟩ := sh_spec s.toNat n
    simp only at h2 h3
    rw [h2, h3] at h4; exact h4
def val : List Int → Int
  | [] => 0
  | d :: l => d + 10 * val l
def Dig (l : List Int) : Prop := ∀ d, d ∈ l → 0 ≤ d ∧ d ≤ 9
theorem Dig.cons {d : Int} {l : List Int} : Dig (d :: l) ↔ (0 ≤ d ∧ d ≤ 9) ∧ Dig l :=
  ⟨fun h => ⟨h d (List.mem_cons_self), fun x hx => h x (List.mem_cons_of_mem _ hx)⟩, fun h x hx => by
    rcases List.mem_cons.1 hx with rfl | hx
    · exact h.1
    · exact h.2 x hx⟩
theorem Dig.nil : Dig [] := fun _ h => by cases h
theorem Dig.drop {l : List Int} (h : Dig l) (k : Nat) : Dig (l.drop k) := fun d hd => h d (List.mem_of_mem_drop hd)
theorem Dig.take {l : List Int} (h : Dig l) (k : Nat) : Dig (l.take k) := fun d hd => h d (List.mem_of_mem_take hd)
theorem Dig.append {l m : List Int} (h : Dig l) (h' : Dig m) : Dig (l ++ m) := fun d hd => (List.mem_append.1 hd).elim (h d) (h' d)
theorem Dig.replicate (n : Nat) : Dig (List.replicate n 0) := fun d hd => by
  have := (List.mem_replicate.1 hd).2; omega
theorem val_nonneg {l : List Int} (h : Dig l) : 0 ≤ val l := by
  induction l with
  | nil => exact Int.le_refl _
  | cons d l ih => have := ih (Dig.cons.1 h).2; have := (Dig.cons.1 h).1; simp only [val]; omega
theorem val_lt {l : List Int} (h : Dig l) : val l < 10 ^ l.length := by
  induction l with
  | nil => decide
  | cons d l ih =>
    have h1 := ih (Dig.cons.1 h).2; have h2 := (Dig.cons.1 h).1
    simp only [val, List.length_cons, Int.pow_succ]; omega
theorem val_append (l m : List Int) : val (l ++ m) = val l + 10 ^ l.length * val m := by
  induction l with
  | nil => simp [val]
  | cons d l ih =>
    simp only [List.cons_append, val, ih, List.length_cons, Int.pow_succ, Int.mul_add]
    rw [Int.mul_comm (10 ^ l.length) 10, Int.mul_assoc]; omega
theorem val_replicate (n : Nat) : val (List.replicate n 0) = 0 := by
  induction n with
  | zero => rfl
  | succ n ih => simp [List.replicate_succ, val, ih]
theorem pow_pos (k : Nat) : (0 : Int) < 10 ^ k := Int.pow_pos (by decide)
def digs : Nat → Int → List Int
  | 0, _ => []
  | c + 1, n => n % 10 :: digs c (n / 10)
theorem digs_length (c : Nat) : ∀ n, (digs c n).length = c := by
  induction c with
  | zero => intro n; rfl
  | succ c ih => intro n; simp [digs, ih]
theorem digs_dig (c : Nat) : ∀ n, Dig (digs c n) := by
  induction c with
  | zero => intro n; exact Dig.nil
  | succ c ih => intro n; exact Dig.cons.2 ⟨by omega, ih _⟩
theorem digs_val (c : Nat) : ∀ n : Int, 0 ≤ n → n < 10 ^ c → val (digs c n) = n := by
  induction c with
  | zero => intro n h0 h1; simp at h1; simp [digs, val]; omega
  | succ c ih =>
    intro n h0 h1
    rw [Int.pow_succ] at h1
    have := ih (n / 10) (by omega) (by omega)
    simp only [digs, val, this]; omega
end Go.Proofs.YtgkemhgihbfmmaaGreatDoor.M
end
section
namespace Go.Proofs.YtgkemhgihbfmmaaGreatDoor.PA
open Go.RowKit Go.Proofs.YtgkemhgihbfmmaaGreatDoorW.PrintWords Go.Proofs.YtgkemhgihbfmmaaGreatDoorW.PrintLast Go.Proofs.YtgkemhgihbfmmaaGreatDoorW.PrintMore
open Go.Proofs.YtgkemhgihbfmmaaGreatDoor.M
theorem w64 {x : Int} (h1 : -9223372036854775808 ≤ x) (h2 : x < 9223372036854775808) : wrap64 x = x := by unfold wrap64; omega
theorem wu64 {x : Int} (h1 : 0 ≤ x) (h2 : x < 18446744073709551616) : IntKind.u64.wrap x = x := by rw [IntKind.wrap_u64]; omega
theorem obs {α β : Type} (a : α) (f : α → Option β) : (some a).bind f = f a := by simp
theorem succ_of {k : Nat} (h : 0 < k) : ∃ m, k = m + 1 := ⟨k - 1, by omega⟩
theorem short_l0 (s : Nat) : ∀ (k : Nat) (n : Int), s < k → s ≤ 1000 → 0 ≤ n → n < 18446744073709551616 → deci_form_short.l0 k n s = some (sh s n) := by
  induction s with
  | zero =>
    intro k n hk _ _ _
    obtain ⟨k, rfl⟩ := succ_of (show 0 < k by omega)
    simp only [deci_form_short.l0]; rw [if_neg (by omega)]; rfl
  | succ s ih =>
    intro k n hk hs h0 h1
    obtain ⟨k, rfl⟩ := succ_of (show 0 < k by omega)
    simp only [deci_form_short.l0]
    rw [if_pos (by omega), Int.tmod_eq_emod_of_nonneg h0, Int.tdiv_eq_ediv_of_nonneg h0]
    by_cases h : n % 10 = 0
    · rw [if_pos h, wu64 (by omega) (by omega), w64 (by omega) (by omega), show ((s + 1 : Nat) : Int) - 1 = (s : Int) by omega, ih k (n / 10) (by omega) (by omega) (by omega) (by omega)]
      simp only [sh, h, if_true]
    · rw [if_neg h]; simp only [sh, h, if_false]; rfl
theorem dec_f {k : Nat} {n s : Int} {m : Bool} (hk : 8 ≤ k) (h0 : 0 ≤ n) (h1 : n < 18446744073709551616) (hs0 : 0 ≤ s) (hs : s ≤ 6) :
    deci_form_dec.f k n s m = some (decS n s.toNat m) := by
  obtain ⟨t, rfl⟩ := Int.eq_ofNat_of_zero_le hs0
  unfold deci_form_dec.f deci_form_short.f
  rw [short_l0 t k n (by omega) (by omega) h0 h1]
  simp only [Option.bind_some, Int.toNat_natCast]
  have hb := sh_nonneg t n h0
  unfold decS
  by_cases h : 999999999999 < (sh t n).1
  · rw [if_pos h, if_pos h]
  · rw [if_neg h, if_neg h, w64 (x := (sh t n).1) (by omega) (by omega), w64 (by omega) (by omega)]
    cases m <;> rfl
theorem mx_abs {n : Int} (h1 : -9223372036854775807 ≤ n) (h2 : n < 9223372036854775808) : IntKind.u64.wrap (mx n (wrap64 (-n))) = n.natAbs := by
  rw [w64 (by omega) (by omega)]; unfold mx
  split <;> (rw [wu64 (by omega) (by omega)]; omega)
theorem decS_mk (n s : Int) (h : ¬ (s < 0 ∨ 6 < s ∨ 999999999999 < n ∨ n < -999999999999)) : decS (n.natAbs : Int) s.toNat (decide (n < 0)) = mk n s := by
  unfold decS mk
  rw [if_neg h]
  have hb := sh_nonneg s.toNat (n.natAbs : Int) (by omega)
  rw [if_neg (by omega)]
  by_cases g : n < 0
  · have e : n = -((n.natAbs : Nat) : Int) := by omega
    simp only [g, decide_true, if_true]
    rw [e, sh_neg]; simp
  · have e : ((n.natAbs : Nat) : Int) = n := by omega
    simp only [g, decide_false, Bool.false_eq_true, if_false]
    rw [e]
theorem make_f {k : Nat} (hk : 10 ≤ k) (n s : Int) : deci_Make.f k n s = some (mk n s) := by
  have hj : ∀ b : Bool, b = decide (s < 0 ∨ 6 < s ∨ 999999999999 < n ∨ n < -999999999999) → deci_Make.j0 k n s b = some (mk n s) := by
    intro b hb
    obtain ⟨k, rfl⟩ := succ_of (show 0 < k by omega)
    simp only [deci_Make.j0]
    by_cases h : s < 0 ∨ 6 < s ∨ 999999999999 < n ∨ n < -999999999999
    · rw [if_pos (by rw [hb]; exact decide_eq_true h)]; unfold mk; rw [if_pos h]
    · rw [if_neg (by rw [hb, decide_eq_false h]; simp), mx_abs (by omega) (by omega), dec_f (by omega) (by omega) (by omega) (by omega) (by omega)]
      simp only [Option.bind_some]
      rw [decS_mk n s h]
  unfold deci_Make.f
  by_cases h1 : s < 0
  · rw [if_pos h1]; exact hj _ (decide_eq_true (by omega)).symm
  rw [if_neg h1]
  by_cases h2 : s > 6
  · rw [if_pos h2]; exact hj _ (decide_eq_true (by omega)).symm
  rw [if_neg h2]
  by_cases h3 : n > 999999999999
  · rw [if_pos h3]; exact hj _ (decide_eq_true (by omega)).symm
  rw [if_neg h3]
  exact hj _ (by rw [decide_eq_decide]; omega)
theorem sound_f {k : Nat} (hk : 10 ≤ k) (n s : Int) : deci_Sound.f k n s = some (decide (Snd n s)) := by
  unfold deci_Sound.f
  rw [make_f hk]; simp only [Option.bind_some]
  by_cases h : Snd n s
  · rw [mk_sound n s h]; simp [h]
  · have hu := mk_unsound n s h
    by_cases e : (mk n s).2.2 = 0
    · rw [if_pos e]; simp only [h, decide_false, Option.some.injEq, Bool.and_eq_false_iff, beq_eq_false_iff_ne]
      by_cases e1 : (mk n s).1 = n
      · right; intro e2; exact hu ⟨e, e1, e2⟩
      · left; exact e1
    · rw [if_neg e]; simp [h]
end Go.Proofs.YtgkemhgihbfmmaaGreatDoor.PA
end
section
namespace Go.Proofs.YtgkemhgihbfmmaaGreatDoor.PA
open Go.RowKit Go.Proofs.YtgkemhgihbfmmaaGreatDoorW.PrintWords Go.Proofs.YtgkemhgihbfmmaaGreatDoorW.PrintLast Go.Proofs.YtgkemhgihbfmmaaGreatDoorW.PrintMore
open Go.Proofs.YtgkemhgihbfmmaaGreatDoor.M
theorem and1 (x : Int) : Go.bits .and .i64 x 1 = 0 ∨ Go.bits .and .i64 x 1 = 1 := by
  have e : Go.bits .and .i64 x 1 = IntKind.i64.wrap (((BitVec.ofInt 64 x &&& BitVec.ofInt 64 1).toNat : Nat) : Int) := rfl
  have h1 : (BitVec.ofInt 64 (1 : Int)).toNat = 1 := by decide
  rw [e, BitVec.toNat_and, h1, Nat.and_one_is_mod]
  have : (BitVec.ofInt 64 x).toNat % 2 = 0 ∨ (BitVec.ofInt 64 x).toNat % 2 = 1 := by omega
  rcases this with h | h <;> rw [h] <;> decide
theorem and1_eq (x : Int) : (x == Go.bits .and .i64 x 1) = decide (x = 0 ∨ x = 1) := by
  by_cases h0 : x = 0
  · subst h0; decide
  · by_cases h1 : x = 1
    · subst h1; decide
    · rcases and1 x with h | h <;> rw [h] <;> simp [h0, h1]
def vsd (a n s : Int) (t : ByteArray) (x : Int) : Bool :=
  if a = 0 then n == 0 && s == 0 && t.toList == ([] : List UInt8) && x == 0
  else if a = 1 then decide (Snd n s) && t.toList == ([] : List UInt8) && x == 0
  else if a = 2 then n == 0 && s == 0 && x == 0 && decide (t.size ≤ 256) && decide (badFrom t t.size 0 < 0)
  else if a = 3 then n == 0 && s == 0 && t.toList == ([] : List UInt8) && decide (x = 0 ∨ x = 1)
  else if a = 4 then n == 0 && s == 0 && t.toList == ([] : List UInt8) && decide (0 ≤ x ∧ x ≤ 3652058)
  else false
theorem vsound_f {k : Nat} (hk : 10 ≤ k) (a n s : Int) (t : ByteArray) (x : Int) : value_Sound.f k a n s t x = some (vsd a n s t x) := by
  unfold value_Sound.f vsd
  by_cases h0 : a = 0
  · rw [if_pos h0, if_pos h0]; simp only [Bool.and_assoc]
  rw [if_neg h0, if_neg h0]
  by_cases h1 : a = 1
  · rw [if_pos h1, if_pos h1, sound_f hk]
    simp only [Option.bind_some]
    by_cases g : (t.toList == ([] : List UInt8) && (x == 0)) = true
    · rw [if_pos g]; simp only [Bool.and_assoc, g, Bool.and_true]
    · rw [if_neg g]; simp only [Bool.not_eq_true] at g; simp only [Bool.and_assoc, g, Bool.and_false]
  rw [if_neg h1, if_neg h1]
  by_cases h2 : a = 2
  · rw [if_pos h2, if_pos h2]
    by_cases g : ((n == 0 && (s == 0)) && (x == 0)) = true
    · rw [if_pos g, g]
      by_cases q : t.size ≤ 256
      · rw [if_pos (by omega)]
        unfold chars_Good.f chars_Bad.f
        rw [if_pos (by omega)]
        simp [q]
      · rw [if_neg (by omega)]; simp [q]
    · rw [if_neg g]; simp only [Bool.not_eq_true] at g; simp [g]
  rw [if_neg h2, if_neg h2]
  by_cases h3 : a = 3
  · rw [if_pos h3, if_pos h3, and1_eq]; simp only [Bool.and_assoc]
  rw [if_neg h3, if_neg h3]
  by_cases h4 : a = 4
  · rw [if_pos h4, if_pos h4]
    have : (x == mx 0 (mn x 3652058)) = decide (0 ≤ x ∧ x ≤ 3652058) := by
      unfold mx mn
      rw [Bool.eq_iff_iff]; simp only [beq_iff_eq, decide_eq_true_eq]
      split <;> split <;> omega
    rw [this]; simp only [Bool.and_assoc]
  · rw [if_neg h4, if_neg h4]
end Go.Proofs.YtgkemhgihbfmmaaGreatDoor.PA
end
section
namespace Go.Proofs.YtgkemhgihbfmmaaGreatDoor.U
def sgn (r : Nat) : Bool := decide (r = 9 ∨ r = 10 ∨ r = 13 ∨ (32 ≤ r ∧ r ≤ 0xD7FF) ∨ (0xE000 ≤ r ∧ r ≤ 0xFFFD) ∨ (0x10000 ≤ r ∧ r ≤ 0x10FFFF))
def bt (s : ByteArray) (i : Nat) : Nat := (s.get! i).toNat
def ct (s : ByteArray) (i : Nat) : Prop := i < s.size ∧ 0x80 ≤ bt s i ∧ bt s i < 0xC0
instance (s : ByteArray) (i : Nat) : Decidable (ct s i) := by unfold ct; infer_instance
def look (s : ByteArray) (p : Nat) : Option Nat :=
  if bt s p < 0x80 then (if sgn (bt s p) = true then some 1 else none)
  else if 0xC0 ≤ bt s p ∧ bt s p < 0xE0 then (if ct s (p + 1) ∧ 0x80 ≤ (bt s p - 0xC0) * 64 + (bt s (p + 1) - 0x80) ∧ sgn ((bt s p - 0xC0) * 64 + (bt s (p + 1) - 0x80)) = true then some 2 else none)
  else if 0xE0 ≤ bt s p ∧ bt s p < 0xF0 then (if ct s (p + 1) ∧ ct s (p + 2) ∧ 0x800 ≤ ((bt s p - 0xE0) * 64 + (bt s (p + 1) - 0x80)) * 64 + (bt s (p + 2) - 0x80) ∧ sgn (((bt s p - 0xE0) * 64 + (bt s (p + 1) - 0x80)) * 64 + (bt s (p + 2) - 0x80)) = true then some 3 else none)
  else if 0xF0 ≤ bt s p ∧ bt s p < 0xF8 then (if ct s (p + 1) ∧ ct s (p + 2) ∧ ct s (p + 3) ∧ 0x10000 ≤ (((bt s p - 0xF0) * 64 + (bt s (p + 1) - 0x80)) * 64 + (bt s (p + 2) - 0x80)) * 64 + (bt s (p + 3) - 0x80) ∧ sgn ((((bt s p - 0xF0) * 64 + (bt s (p + 1) - 0x80)) * 64 + (bt s (p + 2) - 0x80)) * 64 + (bt s (p + 3) - 0x80)) = true then some 4 else none)
  else none
def bad (s : ByteArray) (p : Nat) : Bool := ((Utf8.decode s p).1 == 65533 && (Utf8.decode s p).2 == 1) || !sgn (Utf8.decode s p).1
theorem cont_iff (s : ByteArray) (i : Nat) : (i < s.size ∧ bt s i / 64 = 2) ↔ ct s i := by
  have h : bt s i < 256 := (s.get! i).toNat_lt
  show _ ↔ (i < s.size ∧ 0x80 ≤ bt s i ∧ bt s i < 0xC0)
  generalize bt s i = b at *
  constructor
  · rintro ⟨a, c⟩; exact ⟨a, by omega, by omega⟩
  · rintro ⟨a, c, d⟩; exact ⟨a, by omega⟩
theorem decode_eq (s : ByteArray) (p : Nat) : Utf8.decode s p =
    if bt s p < 0x80 then (bt s p, 1)
    else if bt s p / 32 = 6 ∧ ct s (p + 1) then (if 0x80 ≤ bt s p % 32 * 64 + bt s (p + 1) % 64 then (bt s p % 32 * 64 + bt s (p + 1) % 64, 2) else (65533, 1))
    else if bt s p / 16 = 14 ∧ ct s (p + 1) ∧ ct s (p + 2) then (if 0x800 ≤ bt s p % 16 * 4096 + bt s (p + 1) % 64 * 64 + bt s (p + 2) % 64 ∧ Utf8.valid ((bt s p % 16 * 4096 + bt s (p + 1) % 64 * 64 + bt s (p + 2) % 64 : Nat) : Int) = true then (bt s p % 16 * 4096 + bt s (p + 1) % 64 * 64 + bt s (p + 2) % 64, 3) else (65533, 1))
    else if bt s p / 8 = 30 ∧ ct s (p + 1) ∧ ct s (p + 2) ∧ ct s (p + 3) then (if 0x10000 ≤ bt s p % 8 * 262144 + bt s (p + 1) % 64 * 4096 + bt s (p + 2) % 64 * 64 + bt s (p + 3) % 64 ∧ Utf8.valid ((bt s p % 8 * 262144 + bt s (p + 1) % 64 * 4096 + bt s (p + 2) % 64 * 64 + bt s (p + 3) % 64 : Nat) : Int) = true then (bt s p % 8 * 262144 + bt s (p + 1) % 64 * 4096 + bt s (p + 2) % 64 * 64 + bt s (p + 3) % 64, 4) else (65533, 1))
    else (65533, 1) := by
  unfold Utf8.decode Utf8.runeError
  simp only [Nat.add_zero, ← bt.eq_1, Bool.and_eq_true, beq_iff_eq, decide_eq_true_eq, ge_iff_le]
  simp only [cont_iff]
  simp only [and_assoc]
theorem valid_of {r : Nat} (h : r < 0x110000) : (Utf8.valid (r : Int) = true) ↔ (r < 0xD800 ∨ 0xE000 ≤ r) := by
  unfold Utf8.valid
  simp only [Bool.or_eq_true, Bool.and_eq_true, decide_eq_true_eq]; omega
theorem look_eq (s : ByteArray) (p : Nat) : look s p = if bad s p = true then none else some (Utf8.decode s p).2 := by
  have h0 : bt s p < 256 := (s.get! p).toNat_lt
  have E : bad s p = true ↔ ((Utf8.decode s p).1 = 65533 ∧ (Utf8.decode s p).2 = 1) ∨ ¬ sgn (Utf8.decode s p).1 = true := by
    unfold bad; simp
  rw [decode_eq] at *
  simp only [E]
  clear E
  unfold look
  by_cases g0 : bt s p < 0x80
  · simp only [g0, if_true]
    have : ¬ bt s p = 65533 := by omega
    simp only [this, false_and, false_or]
    split <;> simp_all
  simp only [g0, if_false]
  by_cases g1 : 0xC0 ≤ bt s p ∧ bt s p < 0xE0
  · have d1 : bt s p / 32 = 6 := by omega
    simp only [if_pos g1, d1, true_and]
    by_cases k1 : ct s (p + 1)
    · have k := k1
      obtain ⟨_, k1, k2⟩ := k
      simp only [‹ct s (p + 1)›, true_and, if_true]
      have e : bt s p % 32 * 64 + bt s (p + 1) % 64 = (bt s p - 0xC0) * 64 + (bt s (p + 1) - 0x80) := by omega
      rw [e]
      generalize (bt s p - 0xC0) * 64 + (bt s (p + 1) - 0x80) = r
      by_cases q : 0x80 ≤ r
      · simp only [if_pos q, q, true_and, show (2 : Nat) ≠ 1 by decide, and_false, false_or]
        split <;> simp_all
      · simp [q]
    · simp only [k1, false_and, if_false]
      have : ¬ bt s p / 16 = 14 := by omega
      have h3 : ¬ bt s p / 8 = 30 := by omega
      simp [this, h3]
  have d1 : ¬ bt s p / 32 = 6 := by omega
  simp only [if_neg g1, d1, false_and, if_false]
  by_cases g2 : 0xE0 ≤ bt s p ∧ bt s p < 0xF0
  · have d2 : bt s p / 16 = 14 := by omega
    have d3 : ¬ bt s p / 8 = 30 := by omega
    simp only [if_pos g2, d2, d3, true_and, false_and, if_false]
    by_cases kk : ct s (p + 1) ∧ ct s (p + 2)
    · obtain ⟨m1, m2⟩ := kk
      simp only [m1, m2, true_and, and_self, if_true]
      obtain ⟨_, k1, k2⟩ := m1
      obtain ⟨_, k3, k4⟩ := m2
      have e : bt s p % 16 * 4096 + bt s (p + 1) % 64 * 64 + bt s (p + 2) % 64 = ((bt s p - 0xE0) * 64 + (bt s (p + 1) - 0x80)) * 64 + (bt s (p + 2) - 0x80) := by omega
      have hr : ((bt s p - 0xE0) * 64 + (bt s (p + 1) - 0x80)) * 64 + (bt s (p + 2) - 0x80) < 0x110000 := by omega
      rw [e]
      generalize ((bt s p - 0xE0) * 64 + (bt s (p + 1) - 0x80)) * 64 + (bt s (p + 2) - 0x80) = r at hr ⊢
      simp only [valid_of hr]
      by_cases q : 0x800 ≤ r
      · by_cases v : r < 0xD800 ∨ 0xE000 ≤ r
        · simp only [q, v, true_and, and_self, if_true, show (3 : Nat) ≠ 1 by decide, and_false, false_or]
          split <;> simp_all
        · have : sgn r = false := by unfold sgn; simp; omega
          simp [v, this]
      · simp [q]
    · rw [if_neg kk, if_neg (fun x => kk ⟨x.1, x.2.1⟩)]; simp
  have d2 : ¬ bt s p / 16 = 14 := by omega
  simp only [if_neg g2, d2, false_and, if_false]
  by_cases g3 : 0xF0 ≤ bt s p ∧ bt s p < 0xF8
  · have d3 : bt s p / 8 = 30 := by omega
    simp only [if_pos g3, d3, true_and]
    by_cases kk : ct s (p + 1) ∧ ct s (p + 2) ∧ ct s (p + 3)
    · obtain ⟨m1, m2, m3⟩ := kk
      simp only [m1, m2, m3, true_and, and_self, if_true]
      obtain ⟨_, k1, k2⟩ := m1
      obtain ⟨_, k3, k4⟩ := m2
      obtain ⟨_, k5, k6⟩ := m3
      have e : bt s p % 8 * 262144 + bt s (p + 1) % 64 * 4096 + bt s (p + 2) % 64 * 64 + bt s (p + 3) % 64 = (((bt s p - 0xF0) * 64 + (bt s (p + 1) - 0x80)) * 64 + (bt s (p + 2) - 0x80)) * 64 + (bt s (p + 3) - 0x80) := by omega
      have hr : (((bt s p - 0xF0) * 64 + (bt s (p + 1) - 0x80)) * 64 + (bt s (p + 2) - 0x80)) * 64 + (bt s (p + 3) - 0x80) < 0x200000 := by omega
      rw [e]
      generalize (((bt s p - 0xF0) * 64 + (bt s (p + 1) - 0x80)) * 64 + (bt s (p + 2) - 0x80)) * 64 + (bt s (p + 3) - 0x80) = r at hr ⊢
      have hv : (Utf8.valid (r : Int) = true) ↔ ((r < 0xD800 ∨ 0xE000 ≤ r) ∧ r < 0x110000) := by
        unfold Utf8.valid
        simp only [Bool.or_eq_true, Bool.and_eq_true, decide_eq_true_eq]; omega
      simp only [hv]
      by_cases q : 0x10000 ≤ r
      · by_cases v : r < 0x110000
        · have v2 : (r < 0xD800 ∨ 0xE000 ≤ r) := by omega
          simp only [q, v, v2, true_and, and_self, if_true, show (4 : Nat) ≠ 1 by decide, and_false, false_or]
          split <;> simp_all
        · have : sgn r = false := by unfold sgn; simp; omega
          simp [v, this]
      · simp [q]
    · rw [if_neg kk, if_neg (fun x => kk ⟨x.1, x.2.1, x.2.2.1⟩)]; simp
  · have d3 : ¬ bt s p / 8 = 30 := by omega
    simp only [if_neg g3, d3, false_and, if_false]; simp
end Go.Proofs.YtgkemhgihbfmmaaGreatDoor.U
end
section
namespace Go.Proofs.YtgkemhgihbfmmaaGreatDoor.PA
open Go.RowKit Go.Proofs.YtgkemhgihbfmmaaGreatDoorW.PrintWords Go.Proofs.YtgkemhgihbfmmaaGreatDoorW.PrintLast Go.Proofs.YtgkemhgihbfmmaaGreatDoorW.PrintMore
theorem bt_nat (s : ByteArray) (p : Nat) (h : p < s.size) : bt s (p : Int) = (U.bt s p : Int) := by
  have : (p : Int).toNat = p := Int.toNat_natCast p
  unfold bt U.bt
  rw [dif_pos (by rw [this]; exact h)]
  simp only [this]
  rw [show s.get! p = s[p] from by first | exact dif_pos h | (unfold ByteArray.get!; rw [dif_pos h]; rfl) | simp [h]]
theorem bt_lt (s : ByteArray) (p : Nat) : U.bt s p < 256 := (s.get! p).toNat_lt
def endOf (k : Nat) (s : ByteArray) (p n : Int) (r least : Nat) : Option Bool := if least ≤ r ∧ U.sgn r = true then soffitref04_good.l0 k s (wrap64 (p + n)) else some false
theorem l1_end (k : Nat) (s : ByteArray) (p n : Int) (r least : Nat) (i : Int) (hi : ¬ i < n) : soffitref04_good.l1 (k + 2) s p n (r : Int) (least : Int) i = endOf k s p n r least := by
  rw [soffitref04_good.l1, if_neg hi]
  unfold endOf
  have jt : soffitref04_good.j6 (k + 1) s p n (!true) = soffitref04_good.l0 k s (wrap64 (p + n)) := by rw [soffitref04_good.j6, if_neg (by simp)]
  have jf : soffitref04_good.j6 (k + 1) s p n (!false) = some false := by rw [soffitref04_good.j6]; rfl
  have jd : soffitref04_good.j6 (k + 1) s p n (!(decide ((r : Int) ≤ 1114111))) = if (r : Int) ≤ 1114111 then soffitref04_good.l0 k s (wrap64 (p + n)) else some false := by
    rw [soffitref04_good.j6]; by_cases q : (r : Int) ≤ 1114111 <;> simp [q]
  by_cases h : least ≤ r
  · rw [if_neg (by omega)]
    simp only [jt, jf, jd]
    by_cases g : U.sgn r = true
    · have e : (if least ≤ r ∧ U.sgn r = true then soffitref04_good.l0 k s (wrap64 (p + n)) else some false) = soffitref04_good.l0 k s (wrap64 (p + n)) := if_pos ⟨h, g⟩
      rw [e]
      simp only [U.sgn, decide_eq_true_eq] at g
      repeat' split
      all_goals first | rfl | (exfalso; omega)
    · have e : (if least ≤ r ∧ U.sgn r = true then soffitref04_good.l0 k s (wrap64 (p + n)) else some false) = some false := if_neg (fun x => g x.2)
      rw [e]
      simp only [U.sgn, decide_eq_true_eq] at g
      repeat' split
      all_goals first | rfl | (exfalso; omega)
  · rw [if_pos (by omega), if_neg (fun x => h x.1), soffitref04_good.j6, if_pos rfl]
theorem l1_step (k : Nat) (s : ByteArray) (p i n : Nat) (r : Nat) (least : Int) (hi : i < n) (hn : n ≤ 8) (hp : p < 1000000000) (hr : r < 1000000000) : soffitref04_good.l1 (k + 2) s (p : Int) (n : Int) (r : Int) least (i : Int) =
    if U.ct s (p + i) then soffitref04_good.l1 k s (p : Int) (n : Int) ((r * 64 + (U.bt s (p + i) - 0x80) : Nat) : Int) least ((i + 1 : Nat) : Int) else some false := by
  have hw : wrap64 ((p : Int) + (i : Int)) = ((p + i : Nat) : Int) := by rw [w64 (by omega) (by omega)]; omega
  rw [soffitref04_good.l1, if_pos (by omega)]
  simp only [hw]
  by_cases h : p + i < s.size
  · rw [if_neg (by omega), if_pos (by omega), if_pos (by omega), bt_nat s (p + i) h]
    have hb := bt_lt s (p + i)
    by_cases h1 : U.bt s (p + i) < 128
    · rw [if_pos (by omega), soffitref04_good.j5, if_pos rfl, if_neg]; rintro ⟨_, x, _⟩; omega
    · rw [if_neg (by omega)]
      by_cases h2 : 192 ≤ U.bt s (p + i)
      · rw [show decide (((U.bt s (p + i) : Nat) : Int) ≥ 192) = true by simp; omega, soffitref04_good.j5, if_pos rfl, if_neg]; rintro ⟨_, _, x⟩; omega
      · rw [show decide (((U.bt s (p + i) : Nat) : Int) ≥ 192) = false by simp; omega, soffitref04_good.j5, if_neg (by simp)]
        simp only [hw]
        rw [if_pos (by omega), if_pos (by omega), bt_nat s (p + i) h, if_pos (show U.ct s (p + i) from ⟨h, by omega, by omega⟩)]
        rw [w64 (x := (r : Int) * 64) (by omega) (by omega), w64 (x := ((U.bt s (p + i) : Nat) : Int)) (by omega) (by omega), w64 (x := (r : Int) * 64 + ((U.bt s (p + i) : Nat) : Int)) (by omega) (by omega), w64 (x := (r : Int) * 64 + ((U.bt s (p + i) : Nat) : Int) - 128) (by omega) (by omega), w64 (x := (i : Int) + 1) (by omega) (by omega)]
        congr 1; omega
  · rw [if_pos (by omega), soffitref04_good.j5, if_pos rfl, if_neg]; rintro ⟨x, _⟩; omega
theorem good_step (k : Nat) (s : ByteArray) (p : Nat) (h : p < s.size) (hs : s.size < 100000) : ∃ k', k ≤ k' ∧ soffitref04_good.l0 (k + 16) s (p : Int) = match U.look s p with
    | none => some false
    | some n => soffitref04_good.l0 k' s ((p + n : Nat) : Int) := by
  have hb := bt_lt s p
  have hw : ∀ n : Nat, n < 10 → wrap64 ((p : Int) + (n : Int)) = ((p + n : Nat) : Int) := fun n hn => by rw [w64 (by omega) (by omega)]; omega
  rw [soffitref04_good.l0, if_pos (by omega), if_pos (by omega), bt_nat s p h, w64 (by omega) (by omega)]
  unfold U.look
  by_cases g0 : U.bt s p < 0x80
  · rw [if_pos (by omega), if_pos g0, soffitref04_good.j3]
    refine ⟨k + 12, by omega, ?_⟩
    have := l1_end (k + 12) s p 1 (U.bt s p) 0 1 (by omega)
    rw [show (((0 : Nat) : Int)) = 0 from rfl] at this
    rw [show k + 14 = k + 12 + 2 from rfl, this]
    unfold endOf
    rw [show ((1 : Int)) = ((1 : Nat) : Int) from rfl, hw 1 (by omega)]
    by_cases g : U.sgn (U.bt s p) = true <;> simp [g]
  rw [if_neg (by omega), if_neg g0]
  have j1f : ∀ (K : Nat) (x : Int), soffitref04_good.j1 (K + 1) s (p : Int) x false = if x ≥ 224 then soffitref04_good.j2 K s p x (decide (x < 240)) else soffitref04_good.j2 K s p x false := fun K x => by rw [soffitref04_good.j1, if_neg (by simp)]
  have j1t : ∀ (K : Nat) (x : Int), soffitref04_good.j1 (K + 1) s (p : Int) x true = soffitref04_good.j3 K s p 2 (wrap64 (x - 192)) 128 := fun K x => by rw [soffitref04_good.j1, if_pos rfl]
  have j2f : ∀ (K : Nat) (x : Int), soffitref04_good.j2 (K + 1) s (p : Int) x false = if x ≥ 240 then if x < 248 then soffitref04_good.j3 K s p 4 (wrap64 (x - 240)) 65536 else some false else some false := fun K x => by rw [soffitref04_good.j2, if_neg (by simp)]
  have j2t : ∀ (K : Nat) (x : Int), soffitref04_good.j2 (K + 1) s (p : Int) x true = soffitref04_good.j3 K s p 3 (wrap64 (x - 224)) 2048 := fun K x => by rw [soffitref04_good.j2, if_pos rfl]
  by_cases g1 : 0xC0 ≤ U.bt s p
  · rw [if_pos (show ((U.bt s p : Nat) : Int) ≥ 192 from by omega)]
    by_cases g2 : U.bt s p < 0xE0
    · rw [show decide (((U.bt s p : Nat) : Int) < 224) = true by simp; omega, j1t, if_pos ⟨g1, g2⟩, soffitref04_good.j3, w64 (by omega) (by omega)]
      refine ⟨k + 9, by omega, ?_⟩
      have e : ((U.bt s p : Nat) : Int) - 192 = ((U.bt s p - 0xC0 : Nat) : Int) := by omega
      have st := l1_step (k + 11) s p 1 2 (U.bt s p - 0xC0) 128 (by omega) (by omega) (by omega) (by omega)
      rw [e, show (1 : Int) = ((1 : Nat) : Int) from rfl, show (2 : Int) = ((2 : Nat) : Int) from rfl, show k + 13 = k + 11 + 2 from rfl, st]
      by_cases c1 : U.ct s (p + 1)
      · rw [if_pos c1]
        have := l1_end (k + 9) s p 2 ((U.bt s p - 0xC0) * 64 + (U.bt s (p + 1) - 0x80)) 128 2 (by omega)
        refine Eq.trans this ?_
        unfold endOf
        rw [show ((2 : Int)) = ((2 : Nat) : Int) from rfl, hw 2 (by omega)]
        simp only [c1, true_and]
        split <;> simp_all
      · simp [c1]
    · rw [show decide (((U.bt s p : Nat) : Int) < 224) = false by simp; omega, j1f, if_neg (show ¬ (0xC0 ≤ U.bt s p ∧ U.bt s p < 0xE0) from fun x => g2 x.2), if_pos (show ((U.bt s p : Nat) : Int) ≥ 224 from by omega)]
      by_cases g3 : U.bt s p < 0xF0
      · rw [show decide (((U.bt s p : Nat) : Int) < 240) = true by simp; omega, j2t, if_pos (show 0xE0 ≤ U.bt s p ∧ U.bt s p < 0xF0 from ⟨by omega, g3⟩), soffitref04_good.j3, w64 (by omega) (by omega)]
        refine ⟨k + 6, by omega, ?_⟩
        have e : ((U.bt s p : Nat) : Int) - 224 = ((U.bt s p - 0xE0 : Nat) : Int) := by omega
        have b1 := bt_lt s (p + 1)
        have st := l1_step (k + 10) s p 1 3 (U.bt s p - 0xE0) 2048 (by omega) (by omega) (by omega) (by omega)
        have st2 := l1_step (k + 8) s p 2 3 ((U.bt s p - 0xE0) * 64 + (U.bt s (p + 1) - 0x80)) 2048 (by omega) (by omega) (by omega) (by omega)
        rw [e, show (1 : Int) = ((1 : Nat) : Int) from rfl, show (3 : Int) = ((3 : Nat) : Int) from rfl, show k + 12 = k + 10 + 2 from rfl, st]
        by_cases c1 : U.ct s (p + 1)
        · rw [if_pos c1, show k + 10 = k + 8 + 2 from rfl, show (1 + 1) = 2 from rfl, st2]
          by_cases c2 : U.ct s (p + 2)
          · rw [if_pos c2]
            have := l1_end (k + 6) s p 3 (((U.bt s p - 0xE0) * 64 + (U.bt s (p + 1) - 0x80)) * 64 + (U.bt s (p + 2) - 0x80)) 2048 3 (by omega)
            refine Eq.trans this ?_
            unfold endOf
            rw [show ((3 : Int)) = ((3 : Nat) : Int) from rfl, hw 3 (by omega)]
            simp only [c1, c2, true_and]
            split <;> simp_all
          · simp [c2]
        · simp [c1]
      · rw [show decide (((U.bt s p : Nat) : Int) < 240) = false by simp; omega, j2f, if_neg (show ¬ (0xE0 ≤ U.bt s p ∧ U.bt s p < 0xF0) from fun x => g3 x.2), if_pos (show ((U.bt s p : Nat) : Int) ≥ 240 from by omega)]
        by_cases g4 : U.bt s p < 0xF8
        · rw [if_pos (show ((U.bt s p : Nat) : Int) < 248 from by omega), if_pos (show 0xF0 ≤ U.bt s p ∧ U.bt s p < 0xF8 from ⟨by omega, g4⟩), soffitref04_good.j3, w64 (by omega) (by omega)]
          refine ⟨k + 4, by omega, ?_⟩
          have e : ((U.bt s p : Nat) : Int) - 240 = ((U.bt s p - 0xF0 : Nat) : Int) := by omega
          have b1 := bt_lt s (p + 1)
          have b2 := bt_lt s (p + 2)
          have st := l1_step (k + 10) s p 1 4 (U.bt s p - 0xF0) 65536 (by omega) (by omega) (by omega) (by omega)
          have st2 := l1_step (k + 8) s p 2 4 ((U.bt s p - 0xF0) * 64 + (U.bt s (p + 1) - 0x80)) 65536 (by omega) (by omega) (by omega) (by omega)
          have st3 := l1_step (k + 6) s p 3 4 (((U.bt s p - 0xF0) * 64 + (U.bt s (p + 1) - 0x80)) * 64 + (U.bt s (p + 2) - 0x80)) 65536 (by omega) (by omega) (by omega) (by omega)
          rw [e, show (1 : Int) = ((1 : Nat) : Int) from rfl, show (4 : Int) = ((4 : Nat) : Int) from rfl, show k + 12 = k + 10 + 2 from rfl, st]
          by_cases c1 : U.ct s (p + 1)
          · rw [if_pos c1, show k + 10 = k + 8 + 2 from rfl, show (1 + 1) = 2 from rfl, st2]
            by_cases c2 : U.ct s (p + 2)
            · rw [if_pos c2, show k + 8 = k + 6 + 2 from rfl, show (2 + 1) = 3 from rfl, st3]
              by_cases c3 : U.ct s (p + 3)
              · rw [if_pos c3]
                have := l1_end (k + 4) s p 4 ((((U.bt s p - 0xF0) * 64 + (U.bt s (p + 1) - 0x80)) * 64 + (U.bt s (p + 2) - 0x80)) * 64 + (U.bt s (p + 3) - 0x80)) 65536 4 (by omega)
                refine Eq.trans this ?_
                unfold endOf
                rw [show ((4 : Int)) = ((4 : Nat) : Int) from rfl, hw 4 (by omega)]
                simp only [c1, c2, c3, true_and]
                split <;> simp_all
              · simp [c3]
            · simp [c2]
          · simp [c1]
        · rw [if_neg (show ¬ ((U.bt s p : Nat) : Int) < 248 from by omega), if_neg (show ¬ (0xF0 ≤ U.bt s p ∧ U.bt s p < 0xF8) from fun x => g4 x.2)]; exact ⟨k, by omega, rfl⟩
  · rw [if_neg (show ¬ ((U.bt s p : Nat) : Int) ≥ 192 from by omega), if_neg (show ¬ (0xC0 ≤ U.bt s p ∧ U.bt s p < 0xE0) from fun x => g1 x.1), if_neg (show ¬ (0xE0 ≤ U.bt s p ∧ U.bt s p < 0xF0) from by omega), if_neg (show ¬ (0xF0 ≤ U.bt s p ∧ U.bt s p < 0xF8) from by omega), j1f, if_neg (show ¬ ((U.bt s p : Nat) : Int) ≥ 224 from by omega), j2f, if_neg (show ¬ ((U.bt s p : Nat) : Int) ≥ 240 from by omega)]; exact ⟨k, by omega, rfl⟩
theorem sign_sgn (r : Nat) : (chars_sign.f (r : Int)).getD false = U.sgn r := by
  unfold chars_sign.f
  by_cases g : U.sgn r = true
  · rw [g]; simp only [U.sgn, decide_eq_true_eq] at g
    repeat' split
    all_goals first | rfl | (exfalso; omega) | (simp only [Option.getD_some, decide_eq_true_eq]; omega)
  · simp only [Bool.not_eq_true] at g
    rw [g]; simp only [U.sgn, decide_eq_false_iff_not] at g
    repeat' split
    all_goals first | rfl | (exfalso; omega) | (simp only [Option.getD_some, decide_eq_false_iff_not]; omega)
theorem badAt_bad (s : ByteArray) (p : Nat) : badAt s p = U.bad s p := by
  unfold badAt U.bad; rw [sign_sgn]
theorem good_l0 (s : ByteArray) (hs : s.size < 100000) : ∀ (f p k : Nat), s.size ≤ p + f → 16 * f < k → soffitref04_good.l0 k s (p : Int) = some (decide (badFrom s f p < 0))
  | 0, p, k, h, hk => by
    obtain ⟨k, rfl⟩ := succ_of (show 0 < k by omega)
    rw [soffitref04_good.l0, if_neg (by omega)]; rfl
  | f + 1, p, k, h, hk => by
    by_cases hp : p < s.size
    · obtain ⟨m, rfl⟩ : ∃ m, k = m + 16 := ⟨k - 16, by omega⟩
      obtain ⟨k', hk', e⟩ := good_step m s p hp hs
      rw [e, U.look_eq, badFrom, if_pos hp, badAt_bad]
      by_cases hb : U.bad s p = true
      · rw [if_pos hb, if_pos hb]; simp
      · rw [if_neg hb, if_neg hb]
        have hw := Lib.width_pos s p
        exact good_l0 s hs f (p + (Utf8.decode s p).2) k' (by omega) (by omega)
    · obtain ⟨k, rfl⟩ := succ_of (show 0 < k by omega)
      rw [soffitref04_good.l0, if_neg (by omega), badFrom, if_neg hp]; rfl
theorem good_f {k : Nat} {s : ByteArray} (hs : s.size ≤ 256) (hk : 4200 ≤ k) : soffitref04_good.f k s = some (decide (badFrom s s.size 0 < 0)) :=
  good_l0 s (by omega) s.size 0 k (by omega) (by omega)
end Go.Proofs.YtgkemhgihbfmmaaGreatDoor.PA
end
section
namespace Go.Proofs.YtgkemhgihbfmmaaGreatDoor.PA
open Go.RowKit Go.Proofs.YtgkemhgihbfmmaaGreatDoorW.PrintWords Go.Proofs.YtgkemhgihbfmmaaGreatDoorW.PrintLast Go.Proofs.YtgkemhgihbfmmaaGreatDoorW.PrintMore
open Go.Proofs.YtgkemhgihbfmmaaGreatDoor.M
theorem refmake_l0 (s : Nat) : ∀ (k : Nat) (n : Int), s < k → s ≤ 1000 → -9223372036854775808 ≤ n → n < 9223372036854775808 → soffitref01_Make.l0 k n s = some ((sh s n).1, (sh s n).2, 0) := by
  induction s with
  | zero =>
    intro k n hk _ _ _
    obtain ⟨k, rfl⟩ := succ_of (show 0 < k by omega)
    simp only [soffitref01_Make.l0]; rw [if_neg (by omega)]; rfl
  | succ s ih =>
    intro k n hk hs h0 h1
    obtain ⟨k, rfl⟩ := succ_of (show 0 < k by omega)
    simp only [soffitref01_Make.l0]
    rw [if_pos (by omega)]
    have e : Int.tmod n 10 = 0 ↔ n % 10 = 0 := by
      constructor
      · intro h; have := Int.dvd_of_tmod_eq_zero h; omega
      · intro h; exact Int.tmod_eq_zero_of_dvd (by omega)
    by_cases h : n % 10 = 0
    · have hd : Int.tdiv n 10 = n / 10 := Int.tdiv_eq_ediv_of_dvd (by omega)
      rw [if_pos (e.2 h), hd, w64 (by omega) (by omega), w64 (by omega) (by omega), show ((s + 1 : Nat) : Int) - 1 = (s : Int) by omega, ih k (n / 10) (by omega) (by omega) (by omega) (by omega)]
      simp only [sh, h, if_true]
    · rw [if_neg (fun g => h (e.1 g))]; simp only [sh, h, if_false]; rfl
theorem refmake_f {k : Nat} (hk : 10 ≤ k) (n s : Int) : soffitref01_Make.f k n s = some (mk n s) := by
  have hj : ∀ b : Bool, b = decide (s < 0 ∨ 6 < s ∨ 999999999999 < n ∨ n < -999999999999) → soffitref01_Make.j0 k n s b = some (mk n s) := by
    intro b hb
    obtain ⟨k, rfl⟩ := succ_of (show 0 < k by omega)
    simp only [soffitref01_Make.j0]
    by_cases h : s < 0 ∨ 6 < s ∨ 999999999999 < n ∨ n < -999999999999
    · rw [if_pos (by rw [hb]; exact decide_eq_true h)]; unfold mk; rw [if_pos h]
    · rw [if_neg (by rw [hb, decide_eq_false h]; simp)]
      obtain ⟨t, rfl⟩ := Int.eq_ofNat_of_zero_le (show 0 ≤ s by omega)
      rw [refmake_l0 t k n (by omega) (by omega) (by omega) (by omega)]
      unfold mk; rw [if_neg h, Int.toNat_natCast]
  unfold soffitref01_Make.f
  by_cases h1 : s < 0
  · rw [if_pos h1]; exact hj _ (decide_eq_true (by omega)).symm
  rw [if_neg h1]
  by_cases h2 : s > 6
  · rw [if_pos h2]; exact hj _ (decide_eq_true (by omega)).symm
  rw [if_neg h2]
  by_cases h3 : n > 999999999999
  · rw [if_pos h3]; exact hj _ (decide_eq_true (by omega)).symm
  rw [if_neg h3]
  exact hj _ (by rw [decide_eq_decide]; omega)
theorem refsound_f {k : Nat} (hk : 10 ≤ k) (n s : Int) : soffitref01_Sound.f k n s = some (decide (Snd n s)) := by
  unfold soffitref01_Sound.f
  rw [refmake_f hk]; simp only [Option.bind_some]
  by_cases h : Snd n s
  · rw [mk_sound n s h]; simp [h]
  · have hu := mk_unsound n s h
    by_cases e : (mk n s).2.2 = 0
    · rw [if_pos e]
      by_cases e1 : (mk n s).1 = n
      · rw [if_pos e1]; simp only [h, decide_false, Option.some.injEq, beq_eq_false_iff_ne]
        intro e2; exact hu ⟨e, e1, e2⟩
      · rw [if_neg e1]; simp [h]
    · rw [if_neg e]; simp [h]
end Go.Proofs.YtgkemhgihbfmmaaGreatDoor.PA
end
section
namespace Go.Proofs.YtgkemhgihbfmmaaGreatDoor.PA
open Go.RowKit Go.Proofs.YtgkemhgihbfmmaaGreatDoorW.PrintWords Go.Proofs.YtgkemhgihbfmmaaGreatDoorW.PrintLast Go.Proofs.YtgkemhgihbfmmaaGreatDoorW.PrintMore
open Go.Proofs.YtgkemhgihbfmmaaGreatDoor.M
theorem refvsound_f {k : Nat} (hk : 4300 ≤ k) (a n s : Int) (t : ByteArray) (x : Int) : soffitref04_Sound.f k a n s t x = some (vsd a n s t x) := by
  obtain ⟨k, rfl⟩ : ∃ m, k = m + 1 := ⟨k - 1, by omega⟩
  have e : soffitref04_Sound.f (k + 1) a n s t x = soffitref04_Sound.j0 (k + 1) (n == 0 && s == 0) a n s t x := by
    unfold soffitref04_Sound.f
    by_cases h : n = 0
    · simp [h]
    · rw [if_neg h, show (n == 0) = false from beq_eq_false_iff_ne.mpr h]; rfl
  rw [e, soffitref04_Sound.j0]
  unfold vsd
  obtain ⟨d, hd⟩ : ∃ d, (n == 0 && s == 0) = d := ⟨_, rfl⟩
  obtain ⟨u, hu⟩ : ∃ u, (t.toList == ([] : List UInt8)) = u := ⟨_, rfl⟩
  have hu' : (t.toList = ([] : List UInt8)) = (u = true) := by rw [← hu]; simp
  simp only [hd, hu, hu']
  rw [refsound_f (by omega)]
  by_cases h0 : a = 0
  · rw [if_pos h0, if_pos h0]; cases d <;> cases u <;> simp
  rw [if_neg h0, if_neg h0]
  by_cases h1 : a = 1
  · rw [if_pos h1, if_pos h1]; simp only [Option.bind_some]
    by_cases g : Snd n s <;> cases u <;> simp [g]
  rw [if_neg h1, if_neg h1]
  by_cases h2 : a = 2
  · rw [if_pos h2, if_pos h2]
    by_cases q : t.size ≤ 256
    · rw [if_pos (show (t.size : Int) ≤ 256 by omega), good_f q (by omega)]
      by_cases g : x = 0 <;> cases d <;> simp [q, g]
    · rw [if_neg (show ¬ (t.size : Int) ≤ 256 by omega)]
      by_cases g : x = 0 <;> cases d <;> simp [q, g]
  rw [if_neg h2, if_neg h2]
  by_cases h3 : a = 3
  · rw [if_pos h3, if_pos h3]
    by_cases g : x = 0 <;> cases d <;> cases u <;> simp [g]
    exact Bool.beq_eq_decide_eq _ _
  rw [if_neg h3, if_neg h3]
  by_cases h4 : a = 4
  · rw [if_pos h4, if_pos h4]
    by_cases g : 0 ≤ x <;> cases d <;> cases u <;> simp [g]
  · rw [if_neg h4, if_neg h4]
end Go.Proofs.YtgkemhgihbfmmaaGreatDoor.PA
end
section
namespace Go.Proofs.YtgkemhgihbfmmaaGreatDoor.PA
open Go.RowKit Go.Proofs.YtgkemhgihbfmmaaGreatDoorW.PrintWords Go.Proofs.YtgkemhgihbfmmaaGreatDoorW.PrintLast Go.Proofs.YtgkemhgihbfmmaaGreatDoorW.PrintMore
theorem up {α : Type} {f : Nat → Option α} (h : ∀ k, LeO (f k) (f (k + 1))) {k k' : Nat} (hk : k ≤ k') {r : α} (e : f k = some r) : f k' = some r := by
  induction k' with
  | zero => obtain rfl : k = 0 := by omega
            exact e
  | succ m ih =>
    by_cases g : k = m + 1
    · subst g; exact e
    · exact h m r (ih (by omega))
theorem mem_compact {z : List UInt8} {zs : List (List UInt8)} : z ∈ Lib.compact zs ↔ z ∈ zs := by
  unfold Lib.compact Lib.compactUpTo
  simp only [List.mem_map, List.mem_filter, List.mem_range]
  constructor
  · rintro ⟨j, ⟨hj, _⟩, rfl⟩
    rw [getElem!_pos zs.toArray j (by simpa using hj)]
    simp
  · intro h
    obtain ⟨j, hj, e⟩ := List.getElem_of_mem h
    induction j with
    | zero => exact ⟨0, ⟨hj, by simp [Lib.keeps]⟩, by rw [getElem!_pos zs.toArray 0 (by simpa using hj)]; simpa using e⟩
    | succ j ih =>
      by_cases g : Lib.keeps zs.toArray (j + 1) = true
      · exact ⟨j + 1, ⟨hj, g⟩, by rw [getElem!_pos zs.toArray (j + 1) (by simpa using hj)]; simpa using e⟩
      · refine ih (by omega) ?_
        simp only [Lib.keeps] at g
        simp at g
        have h1 : zs.toArray[j]! = zs[j]'(by omega) := by rw [getElem!_pos zs.toArray j (by simp; omega)]; simp
        have h2 : zs.toArray[j + 1]! = zs[j + 1] := by rw [getElem!_pos zs.toArray (j + 1) (by simpa using hj)]; simp
        simp_all
def has (l : List S27) (n : ByteArray) : Bool := l.any fun y => y.f0.toList == n.toList
theorem fnd_any (q : S27 → Bool) : ∀ (l : List S27) (i : Nat), ∃ r, fnd (fun y => some (q y)) l i = some r ∧ decide (0 ≤ r) = l.any q
  | [], i => ⟨-1, rfl, rfl⟩
  | y :: t, i => by
    simp only [fnd, Option.bind_some, List.any_cons]
    by_cases h : q y = true
    · exact ⟨i, by rw [if_pos h], by simp [h]⟩
    · obtain ⟨r, e, g⟩ := fnd_any q t (i + 1)
      exact ⟨r, by rw [if_neg h, e], by simp [h, g]⟩
theorem allHave_f (l : List S27) : ∀ ns, allHave l ns = some (ns.all (has l))
  | [] => rfl
  | n :: t => by
    obtain ⟨r, e, g⟩ := fnd_any (fun y => y.f0.toList == n.toList) l 0
    simp only [allHave, e, Option.bind_some, List.all_cons]
    have g' : decide (0 ≤ r) = has l n := g
    by_cases h : 0 ≤ r
    · rw [if_pos h, allHave_f l t, ← g']; simp [h]
    · rw [if_neg h, ← g']; simp [h]
theorem toL (b : ByteArray) : (⟨b.data.toList.toArray⟩ : ByteArray) = b := by obtain ⟨⟨l⟩⟩ := b; rfl
theorem names_all (l : List S27) (r : List ByteArray) : (((sortNames r).map fun b => (⟨b.toArray⟩ : ByteArray)).all (has l)) = r.all (has l) := by
  rw [Bool.eq_iff_iff]
  simp only [List.all_eq_true, List.mem_map]
  have m : ∀ z, z ∈ sortNames r ↔ ∃ b ∈ r, b.data.toList = z := by
    intro z
    unfold sortNames
    rw [mem_compact, List.mem_mergeSort, List.mem_map]
  constructor
  · intro h b hb
    exact h b ⟨b.data.toList, (m _).mpr ⟨b, hb, rfl⟩, toL b⟩
  · rintro h _ ⟨z, hz, rfl⟩
    obtain ⟨b, hb, rfl⟩ := (m z).mp hz
    rw [toL]; exact h b hb
def uns (y : S27) : Bool := !vsd y.f1.f0 y.f1.f1.f0 y.f1.f1.f1 y.f1.f2 y.f1.f3
theorem unsound_f {k : Nat} (hk : 10 ≤ k) : unsound27 k = fun y => some (uns y) := by
  funext y
  unfold unsound27 uns
  rw [vsound_f hk]; rfl
theorem eval_f {k : Nat} (hk : 10 ≤ k) {a0 a1 a2 a3 : Int} {a4 : ByteArray} {a5 : Int} {a6 : ByteArray} {l7 : List S31} {l1 : List S27} (hl : l1.length < 4611686018427387904) {ok : Bool} (hs : expr_Sound.f k a0 a1 a2 a3 a4 a5 a6 l7 = some ok) :
    calc_Eval.f k a0 a1 a2 a3 a4 a5 a6 l7 l1 = if ok = true then if l1.any uns = true then some (0, 0, 0, ⟨#[]⟩, 0, 2) else (expr_names.f k a0 a1 a2 a3 a4 a5 a6 l7).bind fun r => if r.length < 4611686018427387904 then
      if r.all (has l1) = true then (calc_scope_eval.f k l1 a0 a1 a2 a3 a4 a5 a6 l7).bind fun v => some (v.1, v.2.1, v.2.2.1, v.2.2.2.1, v.2.2.2.2, 0) else some (0, 0, 0, ⟨#[]⟩, 0, 7) else none else some (0, 0, 0, ⟨#[]⟩, 0, 2) := by
  unfold calc_Eval.f expr_Names.f
  rw [hs]
  simp only [Option.bind_some]
  by_cases ho : ok = true
  · rw [if_pos ho, if_pos ho, if_pos hl, if_pos ho, unsound_f hk]
    obtain ⟨r, e, g⟩ := fnd_any uns l1 0
    rw [e]
    simp only [Option.bind_some]
    by_cases h : 0 ≤ r
    · rw [if_pos h, if_pos (by rw [← g]; simpa using h)]
    · rw [if_neg h, if_neg (by rw [← g]; simpa using h)]
      cases hn : expr_names.f k a0 a1 a2 a3 a4 a5 a6 l7 with
      | none => rfl
      | some ns =>
        simp only [Option.bind_some]
        by_cases hb : ns.length < 4611686018427387904
        · rw [if_pos hb, if_pos hb]
          simp only [Option.bind_some]
          rw [allHave_f, names_all]
          rfl
        · rw [if_neg hb, if_neg hb]; rfl
  · rw [if_neg ho, if_neg ho]
end Go.Proofs.YtgkemhgihbfmmaaGreatDoor.PA
end
section
namespace Go.Proofs.YtgkemhgihbfmmaaGreatDoor.PA
open Go.RowKit Go.Proofs.YtgkemhgihbfmmaaGreatDoorW.PrintWords Go.Proofs.YtgkemhgihbfmmaaGreatDoorW.PrintLast Go.Proofs.YtgkemhgihbfmmaaGreatDoorW.PrintMore
def awakeText : ByteArray := ⟨#[105, 102, 32, 97, 32, 62, 32, 50, 32, 116, 104, 101, 110, 32, 97, 32, 42, 32, 50, 46, 53, 32, 101, 108, 115, 101, 32, 110, 117, 108, 108]⟩
def bare (op : Int) (kids : List S31) : S31 := ⟨op, ⟨0, ⟨0, 0⟩, ⟨#[]⟩, 0⟩, ⟨#[]⟩, kids⟩
def num (n s : Int) : S31 := ⟨1, ⟨1, ⟨n, s⟩, ⟨#[]⟩, 0⟩, ⟨#[]⟩, []⟩
def nul : S31 := ⟨1, ⟨0, ⟨0, 0⟩, ⟨#[]⟩, 0⟩, ⟨#[]⟩, []⟩
def nam (b : UInt8) : S31 := ⟨2, ⟨0, ⟨0, 0⟩, ⟨#[]⟩, 0⟩, ⟨#[b]⟩, []⟩
def awakeKids : List S31 := [bare 12 [nam 97, num 2 0], bare 6 [nam 97, num 25 1], nul]
set_option maxRecDepth 100000 in
theorem awake_parse : expr_Parse.f 200 awakeText = some (17, 0, 0, 0, ⟨#[]⟩, 0, ⟨#[]⟩, awakeKids, 0, 0) := by kernel_rfl
set_option maxRecDepth 100000 in
theorem awake_sound : expr_Sound.f 200 17 0 0 0 ⟨#[]⟩ 0 ⟨#[]⟩ awakeKids = some true := by kernel_rfl
set_option maxRecDepth 100000 in
theorem awake_names : expr_names.f 200 17 0 0 0 ⟨#[]⟩ 0 ⟨#[]⟩ awakeKids = some [⟨#[97]⟩, ⟨#[97]⟩] := by kernel_rfl
def awakeList : List S27 := [⟨⟨#[97]⟩, ⟨1, ⟨3, 0⟩, ⟨#[]⟩, 0⟩⟩]
set_option maxRecDepth 100000 in
theorem awake_val : calc_scope_eval.f 200 awakeList 17 0 0 0 ⟨#[]⟩ 0 ⟨#[]⟩ awakeKids = some (1, 75, 1, ⟨#[]⟩, 0) := by kernel_rfl
theorem awake_eval : calc_Eval.f 200 17 0 0 0 ⟨#[]⟩ 0 ⟨#[]⟩ awakeKids awakeList = some (1, 75, 1, ⟨#[]⟩, 0, 0) := by
  rw [eval_f (by decide) (by decide) awake_sound, if_pos rfl, if_neg (by decide +kernel), awake_names]
  simp only [Option.bind_some]
  rw [if_pos (by decide), if_pos (by decide +kernel), awake_val]
  rfl
theorem awake_f {k : Nat} (hk : 200 ≤ k) : soffitlaw11_awake.f k = some true := by
  refine up (fun k => soffitlaw11_awake.mono k) hk ?_
  unfold soffitlaw11_awake.f
  refine Option.bind_eq_some_iff.mpr ⟨_, awake_parse, ?_⟩
  refine Option.bind_eq_some_iff.mpr ⟨_, awake_eval, ?_⟩
  kernel_rfl
end Go.Proofs.YtgkemhgihbfmmaaGreatDoor.PA
end
section
namespace Go.Proofs.YtgkemhgihbfmmaaGreatDoor.PA
open Go.RowKit Go.Proofs.YtgkemhgihbfmmaaGreatDoorW.PrintWords Go.Proofs.YtgkemhgihbfmmaaGreatDoorW.PrintLast Go.Proofs.YtgkemhgihbfmmaaGreatDoorW.PrintMore
open Go.Proofs.YtgkemhgihbfmmaaGreatDoor.M
theorem all_two {k : Nat} (hk : 15 ≤ k) (n s n' s' : Int) : deci_all.f k [⟨n, s⟩, ⟨n', s'⟩] = some (if Snd n s ∧ Snd n' s' then 0 else 2) := by
  obtain ⟨k, rfl⟩ : ∃ m, k = m + 3 := ⟨k - 3, by omega⟩
  have w1 : wrap64 (0 + 1) = 1 := w64 (by decide) (by decide)
  have w2 : wrap64 (1 + 1) = 2 := w64 (by decide) (by decide)
  unfold deci_all.f
  simp only [deci_all.l0, List.length_cons, List.length_nil, w1, w2]
  have e0 : rd_T23 [(⟨n, s⟩ : S23), ⟨n', s'⟩] 0 = ⟨n, s⟩ := rfl
  have e1 : rd_T23 [(⟨n, s⟩ : S23), ⟨n', s'⟩] 1 = ⟨n', s'⟩ := rfl
  rw [if_pos (by decide), if_pos (by decide), if_pos (by decide), e0, sound_f (by omega)]
  simp only [Option.bind_some, decide_eq_true_eq]
  by_cases h : Snd n s
  · rw [if_pos h, if_pos (by decide), if_pos (by decide), if_pos (by decide), e1, sound_f (by omega)]
    simp only [Option.bind_some, decide_eq_true_eq]
    by_cases h' : Snd n' s'
    · rw [if_pos h', if_neg (by decide)]; simp only [h, h', and_self, if_true]
    · rw [if_neg h']; simp only [h, h', and_false, if_false]
  · rw [if_neg h]; simp only [h, false_and, if_false]
theorem power_l0 (d : Nat) : ∀ (k i : Nat), d < k → i + d ≤ 18 → deci_power.l0 k (10 ^ i) ((i + d : Nat) : Int) (i : Int) = some (10 ^ (i + d)) := by
  have hp : ∀ j : Nat, j ≤ 18 → (10 : Int) ^ j ≤ 1000000000000000000 := fun j h => by
    have h1 : (10 : Int) ^ 18 = 10 ^ j * 10 ^ (18 - j) := by rw [← Int.pow_add]; congr 1; omega
    have h2 := pow_pos j; have h3 := pow_pos (18 - j)
    have h4 : 10 ^ j * 1 ≤ (10 : Int) ^ j * 10 ^ (18 - j) := Int.mul_le_mul_of_nonneg_left (by omega) (by omega)
    have h5 : (10 : Int) ^ 18 = 1000000000000000000 := by decide
    omega
  induction d with
  | zero =>
    intro k i hk hi
    obtain ⟨k, rfl⟩ := succ_of (show 0 < k by omega)
    simp only [deci_power.l0]; rw [if_neg (by omega)]; simp
  | succ d ih =>
    intro k i hk hi
    obtain ⟨k, rfl⟩ := succ_of (show 0 < k by omega)
    simp only [deci_power.l0]
    have h1 := hp (i + 1) (by omega); have h2 := pow_pos (i + 1)
    rw [if_pos (by omega), ← Int.pow_succ, wu64 (by omega) (by omega), w64 (by omega) (by omega)]
    have := ih k (i + 1) (by omega) (by omega)
    rw [show ((i + 1 : Nat) : Int) = (i : Int) + 1 by omega, show i + 1 + d = i + (d + 1) by omega] at this
    exact this
theorem power_f {k : Nat} (hk : 20 ≤ k) {n : Int} (h0 : 0 ≤ n) (h1 : n ≤ 18) : deci_power.f k n = some (10 ^ n.toNat) := by
  obtain ⟨t, rfl⟩ := Int.eq_ofNat_of_zero_le h0
  have := power_l0 t k 0 (by omega) (by omega)
  simp only [Nat.zero_add, Int.pow_zero] at this
  unfold deci_power.f; rw [Int.toNat_natCast]; exact this
end Go.Proofs.YtgkemhgihbfmmaaGreatDoor.PA
end
section
namespace Go.Proofs.YtgkemhgihbfmmaaGreatDoor.PA
open Go.RowKit Go.Proofs.YtgkemhgihbfmmaaGreatDoorW.PrintWords Go.Proofs.YtgkemhgihbfmmaaGreatDoorW.PrintLast Go.Proofs.YtgkemhgihbfmmaaGreatDoorW.PrintMore
open Go.Proofs.YtgkemhgihbfmmaaGreatDoor.M
theorem pow_le {a b : Nat} (h : a ≤ b) : (10 : Int) ^ a ≤ 10 ^ b := by
  obtain ⟨c, rfl⟩ := Nat.exists_eq_add_of_le h
  rw [Int.pow_add]
  have h1 := pow_pos a; have h2 := pow_pos c
  have h3 : (10 : Int) ^ a * 1 ≤ 10 ^ a * 10 ^ c := Int.mul_le_mul_of_nonneg_left (by omega) (by omega)
  omega
theorem pow_6 {a : Nat} (h : a ≤ 6) : 1 ≤ (10 : Int) ^ a ∧ (10 : Int) ^ a ≤ 1000000 := by
  have h1 := pow_pos a; have h2 := pow_le h
  have e : (10 : Int) ^ 6 = 1000000 := by decide
  omega
def un (n s : Int) : Int := n * 10 ^ (6 - s).toNat
theorem mul_bound {n p N P : Int} (h1 : -N ≤ n) (h2 : n ≤ N) (h3 : 0 ≤ p) (h4 : p ≤ P) (hN : 0 ≤ N) : -(N * P) ≤ n * p ∧ n * p ≤ N * P := by
  have a1 : n * p ≤ N * p := Int.mul_le_mul_of_nonneg_right h2 h3
  have a2 : N * p ≤ N * P := Int.mul_le_mul_of_nonneg_left h4 hN
  have a3 : -N * p ≤ n * p := Int.mul_le_mul_of_nonneg_right h1 h3
  rw [Int.neg_mul] at a3; omega
theorem un_bound {n s : Int} (h : Snd n s) : -999999999999000000 ≤ un n s ∧ un n s ≤ 999999999999000000 := by
  obtain ⟨h0, h1, h2, h3, _⟩ := h
  have hp := pow_6 (a := (6 - s).toNat) (by omega)
  have := mul_bound (N := 999999999999) (P := 1000000) h2 h3 (by omega) hp.2 (by decide)
  unfold un; omega
theorem units_f {k : Nat} (hk : 40 ≤ k) {n s : Int} (h : Snd n s) : deci_units.f k n s = some (un n s) := by
  have hb := un_bound h
  obtain ⟨h0, h1, h2, h3, _⟩ := h
  have hp := pow_6 (a := (6 - s).toNat) (by omega)
  unfold deci_units.f
  rw [w64 (by omega) (by omega), power_f (by omega) (by omega) (by omega)]
  simp only [obs]
  rw [w64 (x := (10 : Int) ^ (6 - s).toNat) (by omega) (by omega)]
  rw [show n * 10 ^ (6 - s).toNat = un n s from rfl, w64 (by omega) (by omega)]
def cmpS (n s n' s' : Int) : Int × Int :=
  if Snd n s ∧ Snd n' s' then (if un n s < un n' s' then -1 else if un n' s' < un n s then 1 else 0, 0) else (0, 2)
theorem compare_ff {k : Nat} (hk : 40 ≤ k) (n s n' s' : Int) : deci_Compare.f k n s n' s' = some (cmpS n s n' s') := by
  unfold deci_Compare.f cmpS
  rw [all_two (by omega)]
  simp only [obs]
  by_cases h : Snd n s ∧ Snd n' s'
  · rw [if_pos h, if_pos rfl, if_pos h, units_f hk h.1, units_f hk h.2]
    simp only [obs]
    unfold cmp_Compare_int.f cmp_isNaN_int.f
    simp only [bne_self_eq_false, obs, Bool.false_eq_true, if_false]
    by_cases g : un n s < un n' s'
    · simp [g]
    · by_cases g2 : un n' s' < un n s
      · simp [g, g2]
      · simp [g, g2]
  · rw [if_neg h, if_neg (by decide), if_neg h]
end Go.Proofs.YtgkemhgihbfmmaaGreatDoor.PA
end
section
namespace Go.Proofs.YtgkemhgihbfmmaaGreatDoor.PA
open Go.RowKit Go.Proofs.YtgkemhgihbfmmaaGreatDoorW.PrintWords Go.Proofs.YtgkemhgihbfmmaaGreatDoorW.PrintLast Go.Proofs.YtgkemhgihbfmmaaGreatDoorW.PrintMore
open Go.Proofs.YtgkemhgihbfmmaaGreatDoor.M
def ordv (a n s : Int) (t : ByteArray) (x n' s' : Int) (t' : ByteArray) (x' : Int) : Int :=
  if a = 1 then (if un n s < un n' s' then -1 else if un n' s' < un n s then 1 else 0)
  else if Op.bytesLess t.toList t'.toList = true then -1 else if Op.bytesLess t'.toList t.toList = true then 1 else if x < x' then -1 else if x' < x then 1 else 0
theorem cmpint_f (x y : Int) : cmp_Compare_int.f x y = some (if x < y then -1 else if y < x then 1 else 0) := by
  unfold cmp_Compare_int.f cmp_isNaN_int.f
  simp only [bne_self_eq_false, obs, Bool.false_eq_true, if_false]
  by_cases g : x < y
  · simp [g]
  · by_cases g2 : y < x
    · simp [g, g2]
    · simp [g, g2]
theorem cmpstr_f (x y : ByteArray) : cmp_Compare_string.f x y = some (if Op.bytesLess x.toList y.toList = true then -1 else if Op.bytesLess y.toList x.toList = true then 1 else 0) := by
  unfold cmp_Compare_string.f cmp_isNaN_string.f
  simp only [bne_self_eq_false, obs, Bool.false_eq_true, if_false]
  split
  · rfl
  · split <;> rfl
theorem cmpor_f {k : Nat} (hk : 4 ≤ k) (x y : Int) : cmp_Or_int.f k [x, y] = some (if x = 0 then y else x) := by
  obtain ⟨k, rfl⟩ : ∃ m, k = m + 3 := ⟨k - 3, by omega⟩
  unfold cmp_Or_int.f
  simp only [cmp_Or_int.l0, List.length_cons, List.length_nil]
  have e0 : rd [x, y] 0 = x := rfl
  have e1 : rd [x, y] (wrap64 (0 + 1)) = y := by rw [w64 (by decide) (by decide)]; rfl
  rw [if_pos (by decide +kernel), if_pos (by decide +kernel), if_pos (by decide +kernel), e0, e1]
  by_cases h : x = 0
  · rw [if_pos h, if_pos h, if_pos (by decide +kernel), if_pos (by decide +kernel), if_pos (by decide +kernel)]
    by_cases g : y = 0
    · rw [if_pos g, if_neg (by decide +kernel), g]
    · rw [if_neg g]
  · rw [if_neg h, if_neg h]
theorem order_f {k : Nat} (hk : 50 ≤ k) (a n s : Int) (t : ByteArray) (x n' s' : Int) (t' : ByteArray) (x' : Int) (h : vsd a n s t x = true) (h' : vsd a n' s' t' x' = true) :
    value_order.f k a n s t x a n' s' t' x' = some (ordv a n s t x n' s' t' x') := by
  unfold value_order.f ordv
  rw [if_pos rfl]
  by_cases h1 : a = 1
  · rw [if_pos h1, if_pos h1, compare_ff (by omega)]
    have q : Snd n s := by subst h1; simp only [vsd] at h; simp at h; exact h.1.1
    have q' : Snd n' s' := by subst h1; simp only [vsd] at h'; simp at h'; exact h'.1.1
    unfold cmpS
    rw [if_pos ⟨q, q'⟩]; rfl
  · rw [if_neg h1, if_neg h1, cmpstr_f, cmpint_f]
    simp only [Option.bind_some]
    rw [cmpor_f (by omega)]
    simp only [Option.bind_some]
    congr 1
    by_cases g : Op.bytesLess t.toList t'.toList = true
    · rw [if_pos g, if_pos g]; rfl
    · rw [if_neg g, if_neg g]
      by_cases g2 : Op.bytesLess t'.toList t.toList = true
      · rw [if_pos g2, if_pos g2]; rfl
      · rw [if_neg g2, if_neg g2]; rfl
def trv (b : Bool) : Int × Int × Int × ByteArray × Int := (3, 0, 0, ⟨#[]⟩, if b = true then 1 else 0)
def nov : Int × Int × Int × ByteArray × Int := (0, 0, 0, ⟨#[]⟩, 0)
theorem truth_f (b : Bool) : logic_Truth.f b = some (trv b) := by
  unfold logic_Truth.f trv
  cases b <;> rfl
def lessv (a n s : Int) (t : ByteArray) (x a' n' s' : Int) (t' : ByteArray) (x' : Int) : Option Bool :=
  if vsd a n s t x = true ∧ vsd a' n' s' t' x' = true ∧ a = a' ∧ a ≠ 0 ∧ a ≠ 3 then some (decide (ordv a n s t x n' s' t' x' < 0)) else none
def outv (o : Option Bool) : Int × Int × Int × ByteArray × Int := match o with
  | some b => trv b
  | none => nov
theorem less_vf {k : Nat} (hk : 50 ≤ k) (a n s : Int) (t : ByteArray) (x a' n' s' : Int) (t' : ByteArray) (x' : Int) :
    calc_Less.f k a n s t x a' n' s' t' x' = some (outv (lessv a n s t x a' n' s' t' x')) := by
  obtain ⟨k, rfl⟩ : ∃ m, k = m + 1 := ⟨k - 1, by omega⟩
  have j : ∀ (c : Int) (b : Bool), calc_Less.j0 (k + 1) c b = some (if b = true then nov else trv (decide (c < 0))) := by
    intro c b
    rw [calc_Less.j0, truth_f]
    cases b <;> rfl
  unfold calc_Less.f value_Compare.f
  rw [vsound_f (by omega), vsound_f (by omega)]
  simp only [Option.bind_some, j]
  by_cases h : vsd a n s t x = true
  · by_cases h' : vsd a' n' s' t' x' = true
    · rw [if_pos h, if_pos h']
      by_cases e : a = a'
      · subst e
        rw [order_f (by omega) _ _ _ _ _ _ _ _ _ h h']
        simp only [Option.bind_some, if_true]
        by_cases e0 : a = 0
        · rw [show lessv a n s t x a n' s' t' x' = none from if_neg (fun q => q.2.2.2.1 e0), if_pos e0]; rfl
        · by_cases e3 : a = 3
          · rw [show lessv a n s t x a n' s' t' x' = none from if_neg (fun q => q.2.2.2.2 e3), if_neg e0, e3]; rfl
          · rw [show lessv a n s t x a n' s' t' x' = some _ from if_pos ⟨h, h', rfl, e0, e3⟩, if_neg e0, show (a == 3) = false from beq_eq_false_iff_ne.mpr e3]; rfl
      · have : value_order.f (k + 1) a n s t x a' n' s' t' x' = some (if a < a' then -1 else if a' < a then 1 else 0) := by
          unfold value_order.f
          rw [if_neg e, cmpint_f]; rfl
        rw [this]
        simp only [Option.bind_some, if_true]
        rw [if_neg e, show lessv a n s t x a' n' s' t' x' = none from if_neg (fun q => e q.2.2.1)]; rfl
    · rw [if_pos h, if_neg h', show lessv a n s t x a' n' s' t' x' = none from if_neg (fun q => h' q.2.1)]; simp only [Option.bind_some]; rw [if_neg (by decide)]; rfl
  · rw [if_neg h, show lessv a n s t x a' n' s' t' x' = none from if_neg (fun q => h q.1)]; simp only [Option.bind_some]; rw [if_neg (by decide)]; rfl
def same5 (a n s : Int) (t : ByteArray) (x a' n' s' : Int) (t' : ByteArray) (x' : Int) : Bool := a == a' && ((n == n' && s == s') && (t.toList == t'.toList && x == x'))
def eqv (a n s : Int) (t : ByteArray) (x a' n' s' : Int) (t' : ByteArray) (x' : Int) : Option Bool :=
  if vsd a n s t x = true ∧ vsd a' n' s' t' x' = true ∧ (a = 0 ∨ a' = 0 ∨ a = a') then some (same5 a n s t x a' n' s' t' x') else none
theorem equal_vf {k : Nat} (hk : 50 ≤ k) (a n s : Int) (t : ByteArray) (x a' n' s' : Int) (t' : ByteArray) (x' : Int) :
    calc_Equal.f k a n s t x a' n' s' t' x' = some (outv (eqv a n s t x a' n' s' t' x')) := by
  obtain ⟨k, rfl⟩ : ∃ m, k = m + 3 := ⟨k - 3, by omega⟩
  have j2 : ∀ b : Bool, calc_Equal.j2 (k + 1) b a n s t x a' n' s' t' x' = some (if b = true then trv (same5 a n s t x a' n' s' t' x') else nov) := by
    intro b
    rw [calc_Equal.j2, truth_f]
    cases b <;> rfl
  have j1 : ∀ b : Bool, calc_Equal.j1 (k + 2) b a n s t x a' n' s' t' x' = some (if b = true ∨ a = a' then trv (same5 a n s t x a' n' s' t' x') else nov) := by
    intro b
    rw [calc_Equal.j1]
    cases b
    · rw [if_neg (by simp), j2]; by_cases e : a = a' <;> simp [e]
    · rw [if_pos rfl, j2]; simp
  have j0 : ∀ b : Bool, calc_Equal.j0 (k + 3) b a n s t x a' n' s' t' x' = some (if b = true then nov else if a = 0 ∨ a' = 0 ∨ a = a' then trv (same5 a n s t x a' n' s' t' x') else nov) := by
    intro b
    rw [calc_Equal.j0]
    cases b
    · rw [if_neg (by simp)]
      by_cases e : a = 0
      · rw [if_pos e, j1]; simp [e]
      · rw [if_neg e, j1]; by_cases e' : a' = 0 <;> simp [e, e']
    · rw [if_pos rfl]; rfl
  unfold calc_Equal.f eqv
  rw [vsound_f (by omega), vsound_f (by omega)]
  simp only [Option.bind_some, j0]
  cases h : vsd a n s t x <;> cases h' : vsd a' n' s' t' x'
  · simp [outv]
  · simp [outv]
  · simp [outv]
  · by_cases e : a = 0 ∨ a' = 0 ∨ a = a' <;> simp [e, outv]
end Go.Proofs.YtgkemhgihbfmmaaGreatDoor.PA
end
section
namespace Go.Proofs.YtgkemhgihbfmmaaGreatDoor.PA
open Go.RowKit Go.Proofs.YtgkemhgihbfmmaaGreatDoorW.PrintWords Go.Proofs.YtgkemhgihbfmmaaGreatDoorW.PrintLast Go.Proofs.YtgkemhgihbfmmaaGreatDoorW.PrintMore
open Go.Proofs.YtgkemhgihbfmmaaGreatDoor.M
theorem rd_app (p : List Int) (x : Int) (s : List Int) : rd (p ++ x :: s) (p.length : Int) = x := by
  unfold rd; rw [Int.toNat_natCast]; simp
theorem set_app (p : List Int) (x v : Int) (s : List Int) : (p ++ x :: s).set p.length v = p ++ v :: s := by simp
theorem digits_l0 (d : Nat) : ∀ (k : Nat) (n : Int) (p : List Int), d < k → p.length + d ≤ 1000 → 0 ≤ n → n < 9223372036854775808 →
    soffitref01_digits.l0 k n ((p.length + d : Nat) : Int) (p ++ List.replicate d 0) (p.length : Int) = some (p ++ digs d n) := by
  induction d with
  | zero =>
    intro k n p hk _ _ _
    obtain ⟨k, rfl⟩ := succ_of (show 0 < k by omega)
    simp only [soffitref01_digits.l0]; rw [if_neg (by omega)]; simp [digs]
  | succ d ih =>
    intro k n p hk hl h0 h1
    obtain ⟨k, rfl⟩ := succ_of (show 0 < k by omega)
    simp only [soffitref01_digits.l0]
    rw [if_pos (by omega), if_pos (by omega), if_pos (by simp; omega), Int.tdiv_eq_ediv_of_nonneg h0, Int.tmod_eq_emod_of_nonneg h0, w64 (x := n / 10) (by omega) (by omega), w64 (by omega) (by omega), Int.toNat_natCast, List.replicate_succ, set_app]
    have := ih k (n / 10) (p ++ [n % 10]) (by omega) (by simp; omega) (by omega) (by omega)
    simp only [List.length_append, List.length_singleton, List.append_assoc, List.singleton_append] at this
    rw [show p.length + 1 + d = p.length + (d + 1) by omega, show ((p.length + 1 : Nat) : Int) = (p.length : Int) + 1 by omega] at this
    rw [this]; rfl
theorem digits_f {k c : Nat} {n : Int} (hk : c < k) (hc : c ≤ 1000) (h0 : 0 ≤ n) (h1 : n < 9223372036854775808) : soffitref01_digits.f k n (c : Int) = some (digs c n) := by
  unfold soffitref01_digits.f
  rw [if_pos (by omega), if_pos (by omega), Int.toNat_natCast]
  have := digits_l0 c k n [] hk (by simp; omega) h0 h1
  simpa using this
theorem refsize_f {n : Int} (h1 : -9223372036854775807 ≤ n) (h2 : n < 9223372036854775808) : soffitref01_size.f n = some (n.natAbs : Int) := by
  unfold soffitref01_size.f
  by_cases h : n < 0
  · rw [if_pos h, w64 (by omega) (by omega)]; congr 1; omega
  · rw [if_neg h]; congr 1; omega
end Go.Proofs.YtgkemhgihbfmmaaGreatDoor.PA
end
section
namespace Go.Proofs.YtgkemhgihbfmmaaGreatDoor.PA
open Go.RowKit Go.Proofs.YtgkemhgihbfmmaaGreatDoorW.PrintWords Go.Proofs.YtgkemhgihbfmmaaGreatDoorW.PrintLast Go.Proofs.YtgkemhgihbfmmaaGreatDoorW.PrintMore
open Go.Proofs.YtgkemhgihbfmmaaGreatDoor.M
theorem long_l0 (R : List Int) (n s : Int) (hs : s = 12 - R.length) (hs0 : 0 ≤ s) : ∀ (q p : List Int) (m k : Nat), p.length + q.length = 12 → m + (R.length + 12) = 60 → q.length < k →
    soffitref01_long.l0 k (R ++ (p ++ List.replicate (q.length + m) 0)) (p ++ q) (p.length : Int) n s = some (R ++ (p ++ (q ++ List.replicate m 0))) := by
  intro q
  induction q with
  | nil =>
    intro p m k hp hm hk
    obtain ⟨k, rfl⟩ := succ_of (by omega : 0 < k)
    rw [soffitref01_long.l0, if_neg (by simp only [List.length_nil] at hp; omega)]
    simp
  | cons d q ih =>
    intro p m k hp hm hk
    rw [List.length_cons] at hp hk
    obtain ⟨k, rfl⟩ := succ_of (by omega : 0 < k)
    have hix : wrap64 (wrap64 ((p.length : Int) + 12) - s) = ((R ++ p).length : Int) := by
      rw [w64 (x := (p.length : Int) + 12) (by omega) (by omega), w64 (by omega) (by omega), List.length_append]; omega
    have hlen : ((R ++ (p ++ List.replicate ((d :: q).length + m) (0 : Int))).length : Int) = 60 := by simp only [List.length_append, List.length_replicate, List.length_cons]; omega
    rw [soffitref01_long.l0, if_pos (by omega), if_pos (by omega), if_pos (by simp only [List.length_append, List.length_cons]; omega), hix, if_pos (by omega), hlen, if_pos (by rw [List.length_append]; omega), rd_app, Int.toNat_natCast]
    rw [w64 (x := (p.length : Int) + 1) (by omega) (by omega)]
    have e : R ++ (p ++ List.replicate ((d :: q).length + m) (0 : Int)) = (R ++ p) ++ 0 :: List.replicate (q.length + m) 0 := by
      rw [List.length_cons, show q.length + 1 + m = (q.length + m) + 1 by omega, List.replicate_succ, List.append_assoc]
    rw [e, set_app]
    have := ih (p ++ [d]) m k (by simp only [List.length_append, List.length_cons, List.length_nil]; omega) hm (by omega)
    have e2 : (((p ++ [d]).length : Nat) : Int) = (p.length : Int) + 1 := by simp
    rw [e2] at this
    simpa using this
def row (n s : Int) : List Int := List.replicate (12 - s).toNat 0 ++ (digs 12 (n.natAbs : Int) ++ List.replicate (36 + s).toNat 0)
theorem long_f {k : Nat} {n s : Int} (hk : 100 ≤ k) (h : Snd n s) : soffitref01_long.f k n s = some (row n s) := by
  obtain ⟨h0, h1, h2, h3, _⟩ := h
  unfold soffitref01_long.f
  rw [if_pos (by decide), refsize_f (by omega) (by omega)]
  simp only [obs]
  rw [show (12 : Int) = ((12 : Nat) : Int) from rfl, digits_f (by omega) (by omega) (by omega) (by omega)]
  simp only [obs]
  have := long_l0 (List.replicate (12 - s).toNat 0) n s (by simp only [List.length_replicate]; omega) h0 (digs 12 (n.natAbs : Int)) [] (36 + s).toNat k (by rw [digs_length]; rfl) (by simp only [List.length_replicate]; omega) (by rw [digs_length]; omega)
  rw [digs_length] at this
  have e : List.replicate (12 - s).toNat (0 : Int) ++ ([] ++ List.replicate (12 + (36 + s).toNat) 0) = List.replicate 60 0 := by
    rw [List.nil_append, List.replicate_append_replicate]; congr 1; omega
  rw [e] at this
  exact this
theorem row_length {n s : Int} (h : Snd n s) : (row n s).length = 60 := by
  obtain ⟨h0, h1, _⟩ := h
  unfold row; simp only [List.length_append, List.length_replicate, digs_length]; omega
theorem row_dig (n s : Int) : Dig (row n s) := Dig.append (Dig.replicate _) (Dig.append (digs_dig _ _) (Dig.replicate _))
theorem row_val {n s : Int} (h : Snd n s) : val (row n s) = ((un n s).natAbs : Int) * 10 ^ 6 := by
  obtain ⟨h0, h1, h2, h3, _⟩ := h
  unfold row
  rw [val_append, val_append, val_replicate, val_replicate, digs_val 12 _ (by omega) (by omega), List.length_replicate, Int.mul_zero, Int.add_zero, Int.zero_add]
  have e : ((un n s).natAbs : Int) = (n.natAbs : Int) * 10 ^ (6 - s).toNat := by
    have := pow_pos (6 - s).toNat
    unfold un; rw [Int.natAbs_mul, Int.natCast_mul]; congr 1
  rw [e, Int.mul_assoc, ← Int.pow_add, Int.mul_comm, show (6 - s).toNat + 6 = (12 - s).toNat by omega]
theorem less_l0 (a b : List Int) (ha : Dig a) (hb : Dig b) (hl : a.length = b.length) (hm : a.length ≤ 1000) : ∀ (i k : Nat), i ≤ a.length → i < k →
    soffitref01_less.l0 k a b ((i : Int) - 1) = some (decide (val (a.take i) < val (b.take i))) := by
  intro i
  induction i with
  | zero =>
    intro k _ hk
    obtain ⟨k, rfl⟩ := succ_of (by omega : 0 < k)
    rw [soffitref01_less.l0, if_neg (by omega)]; simp [val]
  | succ i ih =>
    intro k hi hk
    obtain ⟨k, rfl⟩ := succ_of (by omega : 0 < k)
    rw [soffitref01_less.l0, show ((i + 1 : Nat) : Int) - 1 = (i : Int) by omega, if_pos (by omega), if_pos (by omega), if_pos (by omega), if_pos (by omega)]
    have ta : a.take (i + 1) = a.take i ++ [rd a i] := by
      rw [List.take_add_one]; unfold rd; rw [Int.toNat_natCast, List.getD_eq_getElem?_getD, List.getElem?_eq_getElem (by omega)]; rfl
    have tb : b.take (i + 1) = b.take i ++ [rd b i] := by
      rw [List.take_add_one]; unfold rd; rw [Int.toNat_natCast, List.getD_eq_getElem?_getD, List.getElem?_eq_getElem (by omega)]; rfl
    rw [ta, tb, val_append, val_append, List.length_take, List.length_take, show min i a.length = i by omega, show min i b.length = i by omega]
    have va := val_lt (ha.take i); have vb := val_lt (hb.take i)
    have na := val_nonneg (ha.take i); have nb := val_nonneg (hb.take i)
    rw [List.length_take, show min i a.length = i by omega] at va
    rw [List.length_take, show min i b.length = i by omega] at vb
    simp only [val, Int.mul_zero, Int.add_zero]
    by_cases h : rd a i = rd b i
    · rw [if_pos h, w64 (by omega) (by omega), ih k (by omega) (by omega), h]
      congr 1; rw [decide_eq_decide]; omega
    · rw [if_neg h]
      congr 1; rw [decide_eq_decide]
      generalize rd a i = x at h ⊢
      generalize rd b i = y at h ⊢
      generalize (10 : Int) ^ i = P at va vb ⊢
      constructor
      · intro g
        have : P * (x + 1) ≤ P * y := Int.mul_le_mul_of_nonneg_left (by omega) (by omega)
        rw [Int.mul_add, Int.mul_one] at this; omega
      · intro g
        by_cases q : x < y
        · exact q
        · have : P * (y + 1) ≤ P * x := Int.mul_le_mul_of_nonneg_left (by omega) (by omega)
          rw [Int.mul_add, Int.mul_one] at this; omega
theorem less_f {k : Nat} {a b : List Int} (ha : Dig a) (hb : Dig b) (hl : a.length = b.length) (hm : a.length ≤ 1000) (hk : a.length < k) :
    soffitref01_less.f k a b = some (decide (val a < val b)) := by
  unfold soffitref01_less.f
  rw [w64 (by omega) (by omega), less_l0 a b ha hb hl hm a.length k (by omega) hk, List.take_length, hl, List.take_length]
theorem un_neg {n s : Int} : un n s < 0 ↔ n < 0 := by
  have hp := pow_pos (6 - s).toNat
  unfold un
  constructor
  · intro g; by_cases q : n < 0
    · exact q
    · have := Int.mul_nonneg (show 0 ≤ n by omega) (Int.le_of_lt hp); omega
  · intro g; exact Int.mul_neg_of_neg_of_pos g hp
theorem refcmp_ff {k : Nat} (hk : 400 ≤ k) (n s n' s' : Int) : soffitref01_Compare.f k n s n' s' = some (cmpS n s n' s') := by
  unfold soffitref01_Compare.f cmpS
  rw [refsound_f (by omega), refsound_f (by omega)]
  simp only [obs]
  obtain ⟨k, rfl⟩ := succ_of (by omega : 0 < k)
  obtain ⟨k, rfl⟩ := succ_of (by omega : 0 < k)
  obtain ⟨k, rfl⟩ := succ_of (by omega : 0 < k)
  obtain ⟨k, rfl⟩ := succ_of (by omega : 0 < k)
  by_cases h : Snd n s
  · rw [if_pos (by simpa using h)]
    by_cases h' : Snd n' s'
    · rw [if_pos ⟨h, h'⟩, soffitref01_Compare.j0, if_neg (by simpa using h')]
      have b := un_bound h; have b' := un_bound h'
      have l := row_length h; have l' := row_length h'
      have v := row_val h; have v' := row_val h'
      have d := row_dig n s; have d' := row_dig n' s'
      have s1 := un_neg (n := n) (s := s); have s2 := un_neg (n := n') (s := s')
      have j3 : ∀ x : Int, -1 ≤ x → x ≤ 1 → soffitref01_Compare.j3 (k + 1) x n s n' s' = some (if ((un n s).natAbs : Int) < ((un n' s').natAbs : Int) then (-x, 0) else if ((un n' s').natAbs : Int) < ((un n s).natAbs : Int) then (x, 0) else (0, 0)) := by
        intro x x0 x1
        rw [soffitref01_Compare.j3, long_f (by omega) h, long_f (by omega) h']
        simp only [obs]
        rw [less_f d d' (by omega) (by omega) (by omega), less_f d' d (by omega) (by omega) (by omega)]
        simp only [obs, v, v']
        by_cases q1 : ((un n s).natAbs : Int) < ((un n' s').natAbs : Int)
        · rw [if_pos (by simp only [decide_eq_true_eq]; omega), if_pos q1, w64 (by omega) (by omega)]
        · rw [if_neg (by simp only [decide_eq_true_eq]; omega), if_neg q1]
          by_cases q2 : ((un n' s').natAbs : Int) < ((un n s).natAbs : Int)
          · rw [if_pos (by simp only [decide_eq_true_eq]; omega), if_pos q2]
          · rw [if_neg (by simp only [decide_eq_true_eq]; omega), if_neg q2]
      by_cases g : n < 0
      · rw [if_pos g, soffitref01_Compare.j1]
        by_cases g' : n' ≥ 0
        · rw [if_pos (by simpa using g'), if_pos (by omega)]
        · rw [if_neg (by simpa using g'), if_neg (by omega), soffitref01_Compare.j2, if_neg (by simp), if_pos g, j3 _ (by omega) (by omega)]
          by_cases q1 : un n s < un n' s'
          · rw [if_neg (by omega), if_pos (by omega), if_pos q1]
          · by_cases q2 : un n' s' < un n s
            · rw [if_pos (by omega), if_neg q1, if_pos q2]; rfl
            · rw [if_neg (by omega), if_neg (by omega), if_neg q1, if_neg q2]
      · rw [if_neg g, soffitref01_Compare.j1, if_neg (by simp), if_pos (by omega), soffitref01_Compare.j2]
        by_cases g' : n' < 0
        · rw [if_pos (by simpa using g'), if_neg (by omega), if_pos (by omega)]
        · rw [if_neg (by simpa using g'), if_neg g, j3 _ (by omega) (by omega)]
          by_cases q1 : un n s < un n' s'
          · rw [if_pos (by omega), if_pos q1]
          · by_cases q2 : un n' s' < un n s
            · rw [if_neg (by omega), if_pos (by omega), if_neg q1, if_pos q2]
            · rw [if_neg (by omega), if_neg (by omega), if_neg q1, if_neg q2]
    · rw [if_neg (fun q => h' q.2), soffitref01_Compare.j0, if_pos (by simpa using h')]
  · rw [if_neg (by simpa using h), if_neg (fun q => h q.1), soffitref01_Compare.j0, if_pos rfl]
end Go.Proofs.YtgkemhgihbfmmaaGreatDoor.PA
end
section
namespace Go.Proofs.YtgkemhgihbfmmaaGreatDoor.PA
open Go.RowKit Go.Proofs.YtgkemhgihbfmmaaGreatDoorW.PrintWords Go.Proofs.YtgkemhgihbfmmaaGreatDoorW.PrintLast Go.Proofs.YtgkemhgihbfmmaaGreatDoorW.PrintMore
open Go.Proofs.YtgkemhgihbfmmaaGreatDoor.M
theorem un_inj {n s n' s' : Int} (h : Snd n s) (h' : Snd n' s') (e : un n s = un n' s') : n = n' ∧ s = s' := by
  obtain ⟨a0, a1, a2, a3, a4⟩ := h
  obtain ⟨b0, b1, b2, b3, b4⟩ := h'
  unfold un at e
  have c : s = 0 ∨ s = 1 ∨ s = 2 ∨ s = 3 ∨ s = 4 ∨ s = 5 ∨ s = 6 := by omega
  have c' : s' = 0 ∨ s' = 1 ∨ s' = 2 ∨ s' = 3 ∨ s' = 4 ∨ s' = 5 ∨ s' = 6 := by omega
  rcases c with rfl | rfl | rfl | rfl | rfl | rfl | rfl <;> rcases c' with rfl | rfl | rfl | rfl | rfl | rfl | rfl <;> simp at e ⊢ <;> omega
theorem vsd_nil {a n s : Int} {t : ByteArray} {x : Int} (h : vsd a n s t x = true) (ha : a ≠ 2) : t.toList = [] := by
  unfold vsd at h
  (repeat' split at h) <;> simp_all
theorem vsd_n {a n s : Int} {t : ByteArray} {x : Int} (h : vsd a n s t x = true) (ha : a ≠ 1) : n = 0 ∧ s = 0 := by
  unfold vsd at h
  (repeat' split at h) <;> simp_all
theorem vsd_x {a n s : Int} {t : ByteArray} {x : Int} (h : vsd a n s t x = true) (ha : a = 0 ∨ a = 1 ∨ a = 2) : x = 0 := by
  unfold vsd at h
  rcases ha with rfl | rfl | rfl
  · simp at h; exact h.2
  · simp at h; exact h.2
  · simp at h; exact h.1.1.2
theorem vsd_snd {n s : Int} {t : ByteArray} {x : Int} (h : vsd 1 n s t x = true) : Snd n s := by
  simp only [vsd] at h; simp at h; exact h.1.1
theorem less_irrefl (l : List UInt8) : Op.bytesLess l l = false := by
  have := bytesLess_total l l
  rw [beq_self_eq_true, Bool.or_true] at this
  exact this.symm
theorem ord_zero {a n s : Int} {t : ByteArray} {x n' s' : Int} {t' : ByteArray} {x' : Int} (h : vsd a n s t x = true) (h' : vsd a n' s' t' x' = true) :
    (ordv a n s t x n' s' t' x' == 0) = same5 a n s t x a n' s' t' x' := by
  unfold ordv same5
  by_cases h1 : a = 1
  · rw [if_pos h1]
    subst h1
    have q := vsd_snd h
    have q' := vsd_snd h'
    rw [vsd_nil h (by decide), vsd_nil h' (by decide), vsd_x h (Or.inr (Or.inl rfl)), vsd_x h' (Or.inr (Or.inl rfl))]
    rcases Int.lt_trichotomy (un n s) (un n' s') with g | g | g
    · have g3 : ¬ (n = n' ∧ s = s') := fun e => by rw [e.1, e.2] at g; omega
      by_cases e : n = n'
      · have e2 : ¬ s = s' := fun e2 => g3 ⟨e, e2⟩
        simp [g, e2]
      · simp [g, e]
    · have := un_inj q q' g
      have g2 : ¬ un n s < un n' s' := by omega
      have g3 : ¬ un n' s' < un n s := by omega
      simp [g2, g3, this.1, this.2]
    · have g2 : ¬ un n s < un n' s' := by omega
      have g3 : ¬ (n = n' ∧ s = s') := fun e => by rw [e.1, e.2] at g; omega
      by_cases e : n = n'
      · have e2 : ¬ s = s' := fun e2 => g3 ⟨e, e2⟩
        simp [g, g2, e2]
      · simp [g, g2, e]
  · rw [if_neg h1]
    obtain ⟨n0, s0⟩ := vsd_n h h1
    obtain ⟨n1, s1⟩ := vsd_n h' h1
    rw [n0, s0, n1, s1]
    generalize t.toList = u
    generalize t'.toList = u'
    by_cases g : Op.bytesLess u u' = true
    · have g3 : ¬ u = u' := fun e => by rw [e, less_irrefl] at g; cases g
      simp [g, g3]
    · by_cases g2 : Op.bytesLess u' u = true
      · have g3 : ¬ u = u' := fun e => by rw [e, less_irrefl] at g2; cases g2
        simp [g, g2, g3]
      · have g3 : u = u' := by
          have := bytesLess_total u u'
          simp only [Bool.not_eq_true] at g g2
          rw [g, g2] at this
          simpa using this
        subst g3
        have gi := less_irrefl u
        rcases Int.lt_trichotomy x x' with y | y | y
        · have y3 : ¬ x = x' := by omega
          simp [gi, y, y3]
        · subst y; simp [gi]
        · have y2 : ¬ x < x' := by omega
          have y3 : ¬ x = x' := by omega
          simp [gi, y, y2, y3]
theorem reftruth_f (b : Bool) : soffitref10_Truth.f b = some (trv b) := by
  unfold soffitref10_Truth.f trv
  cases b <;> rfl
theorem refcompare_f {k : Nat} (hk : 4500 ≤ k) {a n s : Int} {t : ByteArray} {x n' s' : Int} {t' : ByteArray} {x' : Int} (h : vsd a n s t x = true) (h' : vsd a n' s' t' x' = true) :
    soffitref04_Compare.f k a n s t x a n' s' t' x' = some (ordv a n s t x n' s' t' x', 0) := by
  obtain ⟨k, rfl⟩ : ∃ m, k = m + 2 := ⟨k - 2, by omega⟩
  unfold soffitref04_Compare.f
  rw [refvsound_f (by omega), refvsound_f (by omega)]
  simp only [Option.bind_some, h, h', if_true, Bool.not_true]
  rw [soffitref04_Compare.j0, if_neg (by simp), if_pos rfl]
  unfold ordv
  by_cases h1 : a = 1
  · rw [if_pos h1, if_pos h1, refcmp_ff (by omega)]
    subst h1
    unfold cmpS
    rw [if_pos ⟨vsd_snd h, vsd_snd h'⟩]; rfl
  · rw [if_neg h1, if_neg h1]
    have j1 : ∀ b : Bool, soffitref04_Compare.j1 (k + 1) b a n s t x a n' s' t' x' = some (if b = true then -1 else if Op.bytesLess t'.toList t.toList = true then 1 else if x > x' then 1 else 0, 0) := by
      intro b
      rw [soffitref04_Compare.j1]
      cases b
      · rw [if_neg (by simp)]
        by_cases g : Op.bytesLess t'.toList t.toList = true
        · simp [g]
        · by_cases y : x > x' <;> simp [g, y]
      · simp
    rw [j1, j1]
    by_cases h2 : a = 2
    · have x0 := vsd_x h (Or.inr (Or.inr h2))
      have x1 := vsd_x h' (Or.inr (Or.inr h2))
      subst x0 x1
      by_cases g : Op.bytesLess t.toList t'.toList = true
      · simp [g]
      · by_cases g2 : Op.bytesLess t'.toList t.toList = true <;> simp [g, g2]
    · rw [vsd_nil h h2, vsd_nil h' h2]
      have gi := less_irrefl []
      by_cases y : x < x'
      · simp [gi, y]
      · by_cases y2 : x' < x <;> simp [gi, y, y2]
theorem refequal_f {k : Nat} (hk : 4510 ≤ k) (a n s : Int) (t : ByteArray) (x a' n' s' : Int) (t' : ByteArray) (x' : Int) :
    soffitref11_Equal.f k a n s t x a' n' s' t' x' = some (outv (eqv a n s t x a' n' s' t' x')) := by
  obtain ⟨k, rfl⟩ : ∃ m, k = m + 2 := ⟨k - 2, by omega⟩
  unfold soffitref11_Equal.f
  rw [refvsound_f (by omega), refvsound_f (by omega)]
  simp only [Option.bind_some]
  by_cases h : vsd a n s t x = true
  · by_cases h' : vsd a' n' s' t' x' = true
    · rw [if_pos h, h', soffitref11_Equal.j0, if_neg (by simp)]
      have j1 : ∀ b : Bool, soffitref11_Equal.j1 (k + 1) b a n s t x a' n' s' t' x' = if b = true then (if a = 0 then some (trv (a' == 0)) else some (trv false)) else if a = a' then (soffitref04_Compare.f k a n s t x a' n' s' t' x').bind fun c => some (trv (c.1 == 0)) else some nov := by
        intro b
        rw [soffitref11_Equal.j1, reftruth_f, reftruth_f]
        simp only [Option.bind_some, reftruth_f]
        rfl
      rw [j1, j1]
      by_cases e0 : a = 0
      · rw [if_pos e0, if_pos rfl, if_pos e0, show eqv a n s t x a' n' s' t' x' = some _ from if_pos ⟨h, h', Or.inl e0⟩]
        by_cases e1 : a' = 0
        · have : same5 a n s t x a' n' s' t' x' = true := by
            subst e0 e1
            unfold same5
            rw [(vsd_n h (by decide)).1, (vsd_n h (by decide)).2, (vsd_n h' (by decide)).1, (vsd_n h' (by decide)).2, vsd_nil h (by decide), vsd_nil h' (by decide), vsd_x h (Or.inl rfl), vsd_x h' (Or.inl rfl)]; rfl
          rw [this, e1]; rfl
        · have : same5 a n s t x a' n' s' t' x' = false := by
            unfold same5
            rw [e0, show ((0 : Int) == a') = false from beq_eq_false_iff_ne.mpr (fun q => e1 q.symm)]; rfl
          rw [this, show (a' == 0) = false from beq_eq_false_iff_ne.mpr e1]; rfl
      · rw [if_neg e0]
        by_cases e1 : a' = 0
        · have : same5 a n s t x a' n' s' t' x' = false := by
            unfold same5
            rw [e1, show (a == (0 : Int)) = false from beq_eq_false_iff_ne.mpr e0]; rfl
          rw [show eqv a n s t x a' n' s' t' x' = some _ from if_pos ⟨h, h', Or.inr (Or.inl e1)⟩, this, e1, if_pos (by rfl), if_neg e0]; rfl
        · rw [show (a' == 0) = false from beq_eq_false_iff_ne.mpr e1, if_neg (by simp)]
          by_cases e : a = a'
          · subst e
            rw [if_pos rfl, refcompare_f (by omega) h h', show eqv a n s t x a n' s' t' x' = some _ from if_pos ⟨h, h', Or.inr (Or.inr rfl)⟩]
            simp only [Option.bind_some]
            rw [ord_zero h h']; rfl
          · rw [if_neg e, show eqv a n s t x a' n' s' t' x' = none from if_neg (fun q => q.2.2.elim e0 (fun g => g.elim e1 e))]; rfl
    · simp only [Bool.not_eq_true] at h'
      rw [if_pos h, h', soffitref11_Equal.j0, if_pos (by rfl), show eqv a n s t x a' n' s' t' x' = none from if_neg (fun q => by rw [h'] at q; cases q.2.1)]; rfl
  · rw [if_neg h, soffitref11_Equal.j0, if_pos rfl, show eqv a n s t x a' n' s' t' x' = none from if_neg (fun q => h q.1)]; rfl
theorem refless_f {k : Nat} (hk : 4510 ≤ k) (a n s : Int) (t : ByteArray) (x a' n' s' : Int) (t' : ByteArray) (x' : Int) :
    soffitref11_Less.f k a n s t x a' n' s' t' x' = some (outv (lessv a n s t x a' n' s' t' x')) := by
  obtain ⟨k, rfl⟩ : ∃ m, k = m + 2 := ⟨k - 2, by omega⟩
  have j : ∀ b : Bool, soffitref11_Less.j0 (k + 2) b a n s t x a' n' s' t' x' = if b = true then some nov else (soffitref04_Compare.f (k + 1) a n s t x a' n' s' t' x').bind fun c => some (trv (c.1 == -1)) := by
    intro b
    rw [soffitref11_Less.j0]
    simp only [reftruth_f]
    rfl
  unfold soffitref11_Less.f
  rw [refvsound_f (by omega), refvsound_f (by omega)]
  simp only [Option.bind_some, j]
  by_cases h : vsd a n s t x = true
  · by_cases h' : vsd a' n' s' t' x' = true
    · rw [if_pos h, if_pos h']
      by_cases e : a = a'
      · subst e
        rw [if_pos rfl]
        by_cases e0 : a = 0
        · rw [show lessv a n s t x a n' s' t' x' = none from if_neg (fun q => q.2.2.2.1 e0), if_pos e0]; rfl
        · by_cases e3 : a = 3
          · rw [show lessv a n s t x a n' s' t' x' = none from if_neg (fun q => q.2.2.2.2 e3), if_neg e0, e3]; rfl
          · rw [show lessv a n s t x a n' s' t' x' = some _ from if_pos ⟨h, h', rfl, e0, e3⟩, if_neg e0, show (a == 3) = false from beq_eq_false_iff_ne.mpr e3, if_neg (by simp), refcompare_f (by omega) h h']
            simp only [Option.bind_some]
            have : (ordv a n s t x n' s' t' x' == -1) = decide (ordv a n s t x n' s' t' x' < 0) := by
              unfold ordv
              repeat' split
              all_goals rfl
            rw [this]; rfl
      · rw [if_neg e, show lessv a n s t x a' n' s' t' x' = none from if_neg (fun q => e q.2.2.1)]; rfl
    · rw [if_pos h, if_neg h', show lessv a n s t x a' n' s' t' x' = none from if_neg (fun q => h' q.2.1)]; rfl
  · rw [if_neg h, show lessv a n s t x a' n' s' t' x' = none from if_neg (fun q => h q.1)]; rfl
theorem calcCompares_true (a0 a1 a2 : Int) (a3 : ByteArray) (a4 b0 b1 b2 : Int) (b3 : ByteArray) (b4 : Int) : soffitlaw11_CalcCompares.f 5000 a0 a1 a2 a3 a4 b0 b1 b2 b3 b4 = some true := by
  unfold soffitlaw11_CalcCompares.f
  rw [awake_f (by decide)]
  simp only [Option.bind_some, if_true]
  rw [equal_vf (by decide), refequal_f (by decide), less_vf (by decide), refless_f (by decide)]
  simp only [Option.bind_some]
  rw [if_pos (by simp)]
  simp
end Go.Proofs.YtgkemhgihbfmmaaGreatDoor.PA
end
