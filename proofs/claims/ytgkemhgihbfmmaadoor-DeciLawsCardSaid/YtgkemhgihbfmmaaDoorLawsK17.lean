/- Part 18 of the proof for Laws: functions of the program as plain Lean functions, their calls, and what they come to. -/
import Derived.RowKit
import Derived.Test.YtgkemhgihbfmmaaDoorLawsK14
import Derived.Test.YtgkemhgihbfmmaaDoorLawsK15
import Derived.Test.YtgkemhgihbfmmaaDoorLawsK16
import Derived.Test.YtgkemhgihbfmmaaDoorLawsK2
set_option linter.unusedVariables false
set_option linter.unusedSimpArgs false
section
namespace Go.Proofs.YtgkemhgihbfmmaaDoor.PA
open Go.RowKit Go.Proofs.YtgkemhgihbfmmaaDoorW.PrintWords Go.Proofs.YtgkemhgihbfmmaaDoorW.PrintLast Go.Proofs.YtgkemhgihbfmmaaDoorW.PrintMore
attribute [local go_sem] max2_int min2_int max_two min_two max_three min_three max_four min_four
set_option linter.unusedVariables false
set_option linter.unusedSimpArgs false
attribute [local go_sem high] eqA23
mutual
def soffitlaw01_DeciLaws.j0 : Nat → Int → Int → Bool → Int → Int → Int → Int → Int → Int → Int → Int → Option (Bool)
  | 0, _, _, _, _, _, _, _, _, _, _, _ => none
  | k + 1, x3, x10, x73, x394000, x394001, x395000, x395001, x396000, x396001, x400000, x400001 => if x73 = true then (some false) else (if x10 = 0 then ((deci_Add.f k x396000 x396001 x395000 x395001).bind fun bt413 => ((deci_Compare.f k x394000 x394001 x396000 x396001).bind fun bt417 => (if bt413.2.2 = 0 then (soffitlaw01_DeciLaws.j1 k x3 bt417.1 (bt417.2 == 0) x394000 x394001 x400000 x400001 bt413.1 bt413.2.1) else (soffitlaw01_DeciLaws.j1 k x3 bt417.1 false x394000 x394001 x400000 x400001 bt413.1 bt413.2.1)))) else (some true))
def soffitlaw01_DeciLaws.j1 : Nat → Int → Int → Bool → Int → Int → Int → Int → Int → Int → Option (Bool)
  | 0, _, _, _, _, _, _, _, _, _ => none
  | k + 1, x3, x19, x93, x394000, x394001, x400000, x400001, x417000, x417001 => if x93 = true then ((deci_Compare.f k x400000 x400001 x417000 x417001).bind fun bt419 => (if bt419.2 = 0 then (if bt419.1 = x19 then (soffitlaw01_DeciLaws.j2 k x3 x394000 x394001) else (some false)) else (some false))) else (soffitlaw01_DeciLaws.j2 k x3 x394000 x394001)
def soffitlaw01_DeciLaws.j2 : Nat → Int → Int → Int → Option (Bool)
  | 0, _, _, _ => none
  | k + 1, x3, x394000, x394001 => if x3 = 0 then (soffitlaw01_DeciLaws.j3 k true x394000 x394001 (wrap64 (x3)) 0) else ((soffitref01_Sound.f k (wrap64 (x3)) 0).bind fun t422 => (soffitlaw01_DeciLaws.j3 k (!t422) x394000 x394001 (wrap64 (x3)) 0))
def soffitlaw01_DeciLaws.j3 : Nat → Bool → Int → Int → Int → Int → Option (Bool)
  | 0, _, _, _, _, _ => none
  | k + 1, x116, x394000, x394001, x422000, x422001 => if x116 = true then (some true) else ((deci_Mul.f k x394000 x394001 x422000 x422001).bind fun bt423 => (if bt423.2.2 = 0 then ((deci_Div.f k bt423.1 bt423.2.1 x422000 x422001).bind fun bt427 => (if bt427.2.2 = 0 then (some (bt427.1 == x394000 && (bt427.2.1 == x394001))) else (some false))) else (some (bt423.2.2 == 3))))
end
def soffitlaw01_DeciLaws.f (k : Nat) (a0_0 : Int) (a0_1 : Int) (a1_0 : Int) (a1_1 : Int) (a2_0 : Int) (a2_1 : Int) (a3 : Int) : Option (Bool) := (deci_Add.f k a0_0 a0_1 a1_0 a1_1).bind fun bt396 => ((deci_Add.f k a1_0 a1_1 a0_0 a0_1).bind fun bt400 => ((deci_Mul.f k a0_0 a0_1 a1_0 a1_1).bind fun bt404 => ((deci_Mul.f k a1_0 a1_1 a0_0 a0_1).bind fun bt408 => ((soffitlaw01_awake.f k).bind fun t412 => (if t412 = true then (if (!(bt396.1 == bt400.1) || (!(bt396.2.1 == bt400.2.1))) = true then (soffitlaw01_DeciLaws.j0 k a3 bt396.2.2 true a0_0 a0_1 a1_0 a1_1 a2_0 a2_1 bt396.1 bt396.2.1) else (if bt396.2.2 = bt400.2.2 then (if (!(bt404.1 == bt408.1) || (!(bt404.2.1 == bt408.2.1))) = true then (soffitlaw01_DeciLaws.j0 k a3 bt396.2.2 true a0_0 a0_1 a1_0 a1_1 a2_0 a2_1 bt396.1 bt396.2.1) else (soffitlaw01_DeciLaws.j0 k a3 bt396.2.2 (bt404.2.2 != bt408.2.2) a0_0 a0_1 a1_0 a1_1 a2_0 a2_1 bt396.1 bt396.2.1)) else (soffitlaw01_DeciLaws.j0 k a3 bt396.2.2 true a0_0 a0_1 a1_0 a1_1 a2_0 a2_1 bt396.1 bt396.2.1))) else (soffitlaw01_DeciLaws.j0 k a3 bt396.2.2 true a0_0 a0_1 a1_0 a1_1 a2_0 a2_1 bt396.1 bt396.2.1))))))
theorem soffitlaw01_DeciLaws.mono_l : ∀ k, (∀ y0 y1 y2 y3 y4 y5 y6 y7 y8 y9 y10, LeO (soffitlaw01_DeciLaws.j0 k y0 y1 y2 y3 y4 y5 y6 y7 y8 y9 y10) (soffitlaw01_DeciLaws.j0 (k + 1) y0 y1 y2 y3 y4 y5 y6 y7 y8 y9 y10)) ∧ (∀ y0 y1 y2 y3 y4 y5 y6 y7 y8, LeO (soffitlaw01_DeciLaws.j1 k y0 y1 y2 y3 y4 y5 y6 y7 y8) (soffitlaw01_DeciLaws.j1 (k + 1) y0 y1 y2 y3 y4 y5 y6 y7 y8)) ∧ (∀ y0 y1 y2, LeO (soffitlaw01_DeciLaws.j2 k y0 y1 y2) (soffitlaw01_DeciLaws.j2 (k + 1) y0 y1 y2)) ∧ (∀ y0 y1 y2 y3 y4, LeO (soffitlaw01_DeciLaws.j3 k y0 y1 y2 y3 y4) (soffitlaw01_DeciLaws.j3 (k + 1) y0 y1 y2 y3 y4))
  | 0 => ⟨fun _ _ _ _ _ _ _ _ _ _ _ r h => by simp [soffitlaw01_DeciLaws.j0] at h, fun _ _ _ _ _ _ _ _ _ r h => by simp [soffitlaw01_DeciLaws.j1] at h, fun _ _ _ r h => by simp [soffitlaw01_DeciLaws.j2] at h, fun _ _ _ _ _ r h => by simp [soffitlaw01_DeciLaws.j3] at h⟩
  | k + 1 => by
    obtain ⟨ih0, ih1, ih2, ih3⟩ := soffitlaw01_DeciLaws.mono_l k
    refine ⟨?_, ?_, ?_, ?_⟩
    · intro y0 y1 y2 y3 y4 y5 y6 y7 y8 y9 y10
      unfold soffitlaw01_DeciLaws.j0
      repeat' first
      | (with_reducible exact ih0 _ _ _ _ _ _ _ _ _ _ _)
      | (with_reducible exact ih1 _ _ _ _ _ _ _ _ _)
      | (with_reducible exact ih2 _ _ _)
      | (with_reducible exact ih3 _ _ _ _ _)
      | (with_reducible exact deci_Add.mono _ _ _ _ _)
      | (with_reducible exact deci_Compare.mono _ _ _ _ _)
      | (with_reducible exact deci_Div.mono _ _ _ _ _)
      | (with_reducible exact deci_Mul.mono _ _ _ _ _)
      | (with_reducible exact soffitlaw01_awake.mono _)
      | (with_reducible exact soffitref01_Sound.mono _ _ _)
      | (with_reducible exact LeO.refl _)
      | (with_reducible exact LeO.none _)
      | (with_reducible refine LeO.ite ?_ ?_)
      | (with_reducible refine LeO.bind ?_ (fun _ => ?_))
      | exact ih0 _ _ _ _ _ _ _ _ _ _ _
      | exact ih1 _ _ _ _ _ _ _ _ _
      | exact ih2 _ _ _
      | exact ih3 _ _ _ _ _
      | exact deci_Add.mono _ _ _ _ _
      | exact deci_Compare.mono _ _ _ _ _
      | exact deci_Div.mono _ _ _ _ _
      | exact deci_Mul.mono _ _ _ _ _
      | exact soffitlaw01_awake.mono _
      | exact soffitref01_Sound.mono _ _ _
      | exact LeO.none _
      | refine LeO.ite ?_ ?_
      | refine LeO.bind ?_ (fun _ => ?_)
    · intro y0 y1 y2 y3 y4 y5 y6 y7 y8
      unfold soffitlaw01_DeciLaws.j1
      repeat' first
      | (with_reducible exact ih0 _ _ _ _ _ _ _ _ _ _ _)
      | (with_reducible exact ih1 _ _ _ _ _ _ _ _ _)
      | (with_reducible exact ih2 _ _ _)
      | (with_reducible exact ih3 _ _ _ _ _)
      | (with_reducible exact deci_Add.mono _ _ _ _ _)
      | (with_reducible exact deci_Compare.mono _ _ _ _ _)
      | (with_reducible exact deci_Div.mono _ _ _ _ _)
      | (with_reducible exact deci_Mul.mono _ _ _ _ _)
      | (with_reducible exact soffitlaw01_awake.mono _)
      | (with_reducible exact soffitref01_Sound.mono _ _ _)
      | (with_reducible exact LeO.refl _)
      | (with_reducible exact LeO.none _)
      | (with_reducible refine LeO.ite ?_ ?_)
      | (with_reducible refine LeO.bind ?_ (fun _ => ?_))
      | exact ih0 _ _ _ _ _ _ _ _ _ _ _
      | exact ih1 _ _ _ _ _ _ _ _ _
      | exact ih2 _ _ _
      | exact ih3 _ _ _ _ _
      | exact deci_Add.mono _ _ _ _ _
      | exact deci_Compare.mono _ _ _ _ _
      | exact deci_Div.mono _ _ _ _ _
      | exact deci_Mul.mono _ _ _ _ _
      | exact soffitlaw01_awake.mono _
      | exact soffitref01_Sound.mono _ _ _
      | exact LeO.none _
      | refine LeO.ite ?_ ?_
      | refine LeO.bind ?_ (fun _ => ?_)
    · intro y0 y1 y2
      unfold soffitlaw01_DeciLaws.j2
      repeat' first
      | (with_reducible exact ih0 _ _ _ _ _ _ _ _ _ _ _)
      | (with_reducible exact ih1 _ _ _ _ _ _ _ _ _)
      | (with_reducible exact ih2 _ _ _)
      | (with_reducible exact ih3 _ _ _ _ _)
      | (with_reducible exact deci_Add.mono _ _ _ _ _)
      | (with_reducible exact deci_Compare.mono _ _ _ _ _)
      | (with_reducible exact deci_Div.mono _ _ _ _ _)
      | (with_reducible exact deci_Mul.mono _ _ _ _ _)
      | (with_reducible exact soffitlaw01_awake.mono _)
      | (with_reducible exact soffitref01_Sound.mono _ _ _)
      | (with_reducible exact LeO.refl _)
      | (with_reducible exact LeO.none _)
      | (with_reducible refine LeO.ite ?_ ?_)
      | (with_reducible refine LeO.bind ?_ (fun _ => ?_))
      | exact ih0 _ _ _ _ _ _ _ _ _ _ _
      | exact ih1 _ _ _ _ _ _ _ _ _
      | exact ih2 _ _ _
      | exact ih3 _ _ _ _ _
      | exact deci_Add.mono _ _ _ _ _
      | exact deci_Compare.mono _ _ _ _ _
      | exact deci_Div.mono _ _ _ _ _
      | exact deci_Mul.mono _ _ _ _ _
      | exact soffitlaw01_awake.mono _
      | exact soffitref01_Sound.mono _ _ _
      | exact LeO.none _
      | refine LeO.ite ?_ ?_
      | refine LeO.bind ?_ (fun _ => ?_)
    · intro y0 y1 y2 y3 y4
      unfold soffitlaw01_DeciLaws.j3
      repeat' first
      | (with_reducible exact ih0 _ _ _ _ _ _ _ _ _ _ _)
      | (with_reducible exact ih1 _ _ _ _ _ _ _ _ _)
      | (with_reducible exact ih2 _ _ _)
      | (with_reducible exact ih3 _ _ _ _ _)
      | (with_reducible exact deci_Add.mono _ _ _ _ _)
      | (with_reducible exact deci_Compare.mono _ _ _ _ _)
      | (with_reducible exact deci_Div.mono _ _ _ _ _)
      | (with_reducible exact deci_Mul.mono _ _ _ _ _)
      | (with_reducible exact soffitlaw01_awake.mono _)
      | (with_reducible exact soffitref01_Sound.mono _ _ _)
      | (with_reducible exact LeO.refl _)
      | (with_reducible exact LeO.none _)
      | (with_reducible refine LeO.ite ?_ ?_)
      | (with_reducible refine LeO.bind ?_ (fun _ => ?_))
      | exact ih0 _ _ _ _ _ _ _ _ _ _ _
      | exact ih1 _ _ _ _ _ _ _ _ _
      | exact ih2 _ _ _
      | exact ih3 _ _ _ _ _
      | exact deci_Add.mono _ _ _ _ _
      | exact deci_Compare.mono _ _ _ _ _
      | exact deci_Div.mono _ _ _ _ _
      | exact deci_Mul.mono _ _ _ _ _
      | exact soffitlaw01_awake.mono _
      | exact soffitref01_Sound.mono _ _ _
      | exact LeO.none _
      | refine LeO.ite ?_ ?_
      | refine LeO.bind ?_ (fun _ => ?_)
theorem soffitlaw01_DeciLaws.mono : ∀ a0 a1 a2 a3 a4 a5 a6 k, LeO (soffitlaw01_DeciLaws.f k a0 a1 a2 a3 a4 a5 a6) (soffitlaw01_DeciLaws.f (k + 1) a0 a1 a2 a3 a4 a5 a6) := by
  intro a0 a1 a2 a3 a4 a5 a6 k
  obtain ⟨ih0, ih1, ih2, ih3⟩ := soffitlaw01_DeciLaws.mono_l k
  unfold soffitlaw01_DeciLaws.f
  repeat' first
      | (with_reducible exact ih0 _ _ _ _ _ _ _ _ _ _ _)
      | (with_reducible exact ih1 _ _ _ _ _ _ _ _ _)
      | (with_reducible exact ih2 _ _ _)
      | (with_reducible exact ih3 _ _ _ _ _)
      | (with_reducible exact deci_Add.mono _ _ _ _ _)
      | (with_reducible exact deci_Compare.mono _ _ _ _ _)
      | (with_reducible exact deci_Div.mono _ _ _ _ _)
      | (with_reducible exact deci_Mul.mono _ _ _ _ _)
      | (with_reducible exact soffitlaw01_awake.mono _)
      | (with_reducible exact soffitref01_Sound.mono _ _ _)
      | (with_reducible exact LeO.refl _)
      | (with_reducible exact LeO.none _)
      | (with_reducible refine LeO.ite ?_ ?_)
      | (with_reducible refine LeO.bind ?_ (fun _ => ?_))
      | exact ih0 _ _ _ _ _ _ _ _ _ _ _
      | exact ih1 _ _ _ _ _ _ _ _ _
      | exact ih2 _ _ _
      | exact ih3 _ _ _ _ _
      | exact deci_Add.mono _ _ _ _ _
      | exact deci_Compare.mono _ _ _ _ _
      | exact deci_Div.mono _ _ _ _ _
      | exact deci_Mul.mono _ _ _ _ _
      | exact soffitlaw01_awake.mono _
      | exact soffitref01_Sound.mono _ _ _
      | exact LeO.none _
      | refine LeO.ite ?_ ?_
      | refine LeO.bind ?_ (fun _ => ?_)
set_option maxHeartbeats 8000000 in
set_option maxRecDepth 100000 in
theorem soffitlaw01_DeciLaws.calls (k : Nat) (a0_0 : Int) (a0_1 : Int) (a1_0 : Int) (a1_1 : Int) (a2_0 : Int) (a2_1 : Int) (a3 : Int) (r : Bool) (w : World) (hT : Tabs w) (hr : r = true) (h : soffitlaw01_DeciLaws.f k a0_0 a0_1 a1_0 a1_1 a2_0 a2_1 a3 = some r) :
    Calls Tryd.prog 8 #[.agg #[.int .i64 a0_0, .int .i64 a0_1], .agg #[.int .i64 a1_0, .int .i64 a1_1], .agg #[.int .i64 a2_0, .int .i64 a2_1], .int .i16 a3] w fun e w' => e = .returned (.bool r) ∧ Below w.heap.size w w' := by
  have hu23 := Tryd.underlying23
  have HT := Aside0.mk hT
  clear hT
  have HR := Aside0.mk hr
  clear hr
  have HB := Aside0.mk (Below.refl w.heap.size w)
  have H : ((deci_Add.f k a0_0 a0_1 a1_0 a1_1).bind fun bt396 => ((deci_Add.f k a1_0 a1_1 a0_0 a0_1).bind fun bt400 => ((deci_Mul.f k a0_0 a0_1 a1_0 a1_1).bind fun bt404 => ((deci_Mul.f k a1_0 a1_1 a0_0 a0_1).bind fun bt408 => ((soffitlaw01_awake.f k).bind fun t412 => (if t412 = true then (if (!(bt396.1 == bt400.1) || (!(bt396.2.1 == bt400.2.1))) = true then (soffitlaw01_DeciLaws.j0 k a3 bt396.2.2 true a0_0 a0_1 a1_0 a1_1 a2_0 a2_1 bt396.1 bt396.2.1) else (if bt396.2.2 = bt400.2.2 then (if (!(bt404.1 == bt408.1) || (!(bt404.2.1 == bt408.2.1))) = true then (soffitlaw01_DeciLaws.j0 k a3 bt396.2.2 true a0_0 a0_1 a1_0 a1_1 a2_0 a2_1 bt396.1 bt396.2.1) else (soffitlaw01_DeciLaws.j0 k a3 bt396.2.2 (bt404.2.2 != bt408.2.2) a0_0 a0_1 a1_0 a1_1 a2_0 a2_1 bt396.1 bt396.2.1)) else (soffitlaw01_DeciLaws.j0 k a3 bt396.2.2 true a0_0 a0_1 a1_0 a1_1 a2_0 a2_1 bt396.1 bt396.2.1))) else (soffitlaw01_DeciLaws.j0 k a3 bt396.2.2 true a0_0 a0_1 a1_0 a1_1 a2_0 a2_1 bt396.1 bt396.2.1))))))) = some r := h
  clear h
  replace H := Option.bind_eq_some_iff.mp H
  obtain ⟨⟨t396, t397, t398⟩, A50, H⟩ := H
  replace H : ((deci_Add.f k a1_0 a1_1 a0_0 a0_1).bind fun bt400 => ((deci_Mul.f k a0_0 a0_1 a1_0 a1_1).bind fun bt404 => ((deci_Mul.f k a1_0 a1_1 a0_0 a0_1).bind fun bt408 => ((soffitlaw01_awake.f k).bind fun t412 => (if t412 = true then (if (!(t396 == bt400.1) || (!(t397 == bt400.2.1))) = true then (soffitlaw01_DeciLaws.j0 k a3 t398 true a0_0 a0_1 a1_0 a1_1 a2_0 a2_1 t396 t397) else (if t398 = bt400.2.2 then (if (!(bt404.1 == bt408.1) || (!(bt404.2.1 == bt408.2.1))) = true then (soffitlaw01_DeciLaws.j0 k a3 t398 true a0_0 a0_1 a1_0 a1_1 a2_0 a2_1 t396 t397) else (soffitlaw01_DeciLaws.j0 k a3 t398 (bt404.2.2 != bt408.2.2) a0_0 a0_1 a1_0 a1_1 a2_0 a2_1 t396 t397)) else (soffitlaw01_DeciLaws.j0 k a3 t398 true a0_0 a0_1 a1_0 a1_1 a2_0 a2_1 t396 t397))) else (soffitlaw01_DeciLaws.j0 k a3 t398 true a0_0 a0_1 a1_0 a1_1 a2_0 a2_1 t396 t397)))))) = some r := H
  have A5 := Aside0.mk A50
  clear A50
  replace H := Option.bind_eq_some_iff.mp H
  obtain ⟨⟨t400, t401, t402⟩, A60, H⟩ := H
  replace H : ((deci_Mul.f k a0_0 a0_1 a1_0 a1_1).bind fun bt404 => ((deci_Mul.f k a1_0 a1_1 a0_0 a0_1).bind fun bt408 => ((soffitlaw01_awake.f k).bind fun t412 => (if t412 = true then (if (!(t396 == t400) || (!(t397 == t401))) = true then (soffitlaw01_DeciLaws.j0 k a3 t398 true a0_0 a0_1 a1_0 a1_1 a2_0 a2_1 t396 t397) else (if t398 = t402 then (if (!(bt404.1 == bt408.1) || (!(bt404.2.1 == bt408.2.1))) = true then (soffitlaw01_DeciLaws.j0 k a3 t398 true a0_0 a0_1 a1_0 a1_1 a2_0 a2_1 t396 t397) else (soffitlaw01_DeciLaws.j0 k a3 t398 (bt404.2.2 != bt408.2.2) a0_0 a0_1 a1_0 a1_1 a2_0 a2_1 t396 t397)) else (soffitlaw01_DeciLaws.j0 k a3 t398 true a0_0 a0_1 a1_0 a1_1 a2_0 a2_1 t396 t397))) else (soffitlaw01_DeciLaws.j0 k a3 t398 true a0_0 a0_1 a1_0 a1_1 a2_0 a2_1 t396 t397))))) = some r := H
  have A6 := Aside0.mk A60
  clear A60
  replace H := Option.bind_eq_some_iff.mp H
  obtain ⟨⟨t404, t405, t406⟩, A70, H⟩ := H
  replace H : ((deci_Mul.f k a1_0 a1_1 a0_0 a0_1).bind fun bt408 => ((soffitlaw01_awake.f k).bind fun t412 => (if t412 = true then (if (!(t396 == t400) || (!(t397 == t401))) = true then (soffitlaw01_DeciLaws.j0 k a3 t398 true a0_0 a0_1 a1_0 a1_1 a2_0 a2_1 t396 t397) else (if t398 = t402 then (if (!(t404 == bt408.1) || (!(t405 == bt408.2.1))) = true then (soffitlaw01_DeciLaws.j0 k a3 t398 true a0_0 a0_1 a1_0 a1_1 a2_0 a2_1 t396 t397) else (soffitlaw01_DeciLaws.j0 k a3 t398 (t406 != bt408.2.2) a0_0 a0_1 a1_0 a1_1 a2_0 a2_1 t396 t397)) else (soffitlaw01_DeciLaws.j0 k a3 t398 true a0_0 a0_1 a1_0 a1_1 a2_0 a2_1 t396 t397))) else (soffitlaw01_DeciLaws.j0 k a3 t398 true a0_0 a0_1 a1_0 a1_1 a2_0 a2_1 t396 t397)))) = some r := H
  have A7 := Aside0.mk A70
  clear A70
  replace H := Option.bind_eq_some_iff.mp H
  obtain ⟨⟨t408, t409, t410⟩, A80, H⟩ := H
  replace H : ((soffitlaw01_awake.f k).bind fun t412 => (if t412 = true then (if (!(t396 == t400) || (!(t397 == t401))) = true then (soffitlaw01_DeciLaws.j0 k a3 t398 true a0_0 a0_1 a1_0 a1_1 a2_0 a2_1 t396 t397) else (if t398 = t402 then (if (!(t404 == t408) || (!(t405 == t409))) = true then (soffitlaw01_DeciLaws.j0 k a3 t398 true a0_0 a0_1 a1_0 a1_1 a2_0 a2_1 t396 t397) else (soffitlaw01_DeciLaws.j0 k a3 t398 (t406 != t410) a0_0 a0_1 a1_0 a1_1 a2_0 a2_1 t396 t397)) else (soffitlaw01_DeciLaws.j0 k a3 t398 true a0_0 a0_1 a1_0 a1_1 a2_0 a2_1 t396 t397))) else (soffitlaw01_DeciLaws.j0 k a3 t398 true a0_0 a0_1 a1_0 a1_1 a2_0 a2_1 t396 t397))) = some r := H
  have A8 := Aside0.mk A80
  clear A80
  have HC9 := Aside0.mk H
  clear H
  go_enter Tryd.func8, Tryd.ntmps8
  go_upto_region 5 with (first | ((with_reducible refine gate_dst (N := 4) rfl ?_); refine box_event ?hg (N := 4) ?hd (cs := #[.int .i64 a0_0, .int .i64 a0_1]) (t := 23) ?hr ?_; (case hd => rfl); (case hg => rfl); (case hr => first | (go_simp; done) | (go_simp; rfl)); intro gb393 hg w10 hbox hb; have n0_ := Aside0.mk (below_step (by repeat (first | (with_reducible first | exact HB.out | apply below_alloc | apply pw_below_drewN | apply below_drew1) | exact HB.out)) hb); have n1_ := Aside0.mk (hbox); have n2_ := Aside0.mk ((by rw [hg]; exact (below_size (by repeat (first | (with_reducible first | exact HB.out | apply below_alloc | apply pw_below_drewN | apply below_drew1) | exact HB.out))) : w.heap.size ≤ gb393)); have n3_ := Aside0.mk ((by rw [hg]; exact (below_size (by repeat (first | (with_reducible first | exact HB.out | apply below_alloc | apply pw_below_drewN | apply below_drew1) | exact HB.out))) : w.heap.size ≤ gb393)); clear HB; have HB := n0_; have BK393 := n1_; have GW393 := n2_; have GE393 := n3_; clear n0_ n1_ n2_ n3_; clear hb hbox hg) | ((with_reducible refine gate_dst (N := 5) rfl ?_); refine box_event ?hg (N := 5) ?hd (cs := #[.int .i64 a1_0, .int .i64 a1_1]) (t := 23) ?hr ?_; (case hd => rfl); (case hg => rfl); (case hr => first | (go_simp; done) | (go_simp; rfl)); intro gb394 hg w11 hbox hb; have n0_ := Aside0.mk (blk_below (g := gb393) (o := .cells #[.int .i64 a0_0, .int .i64 a0_1] 23 (0, 0)) (by (with_reducible repeat (first | refine blk_drewN ?_ _ | refine blk_drew ?_ | refine blk_alloc ?_ _)); exact BK393.out) hb); have n1_ := Aside0.mk (below_step (by repeat (first | (with_reducible first | exact HB.out | apply below_alloc | apply pw_below_drewN | apply below_drew1 | refine below_set ?_ GE393.out) | exact HB.out)) hb); have n2_ := Aside0.mk (hbox); have n3_ := Aside0.mk ((by rw [hg]; exact (below_size (by repeat (first | (with_reducible first | exact HB.out | apply below_alloc | apply pw_below_drewN | apply below_drew1 | refine below_set ?_ GE393.out) | exact HB.out))) : w.heap.size ≤ gb394)); have n4_ := Aside0.mk ((by rw [hg]; exact (below_size (by repeat (first | (with_reducible first | exact HB.out | apply below_alloc | apply pw_below_drewN | apply below_drew1 | refine below_set ?_ GE393.out) | exact HB.out))) : w.heap.size ≤ gb394)); have n5_ := Aside0.mk ((by rw [hg]; exact Nat.ne_of_lt (blk_lt (g := gb393) (o := .cells #[.int .i64 a0_0, .int .i64 a0_1] 23 (0, 0)) (by (with_reducible repeat (first | refine blk_drewN ?_ _ | refine blk_drew ?_ | refine blk_alloc ?_ _)); exact BK393.out)) : gb393 ≠ gb394)); have n6_ := Aside0.mk ((by rw [hg]; exact Nat.ne_of_gt (blk_lt (g := gb393) (o := .cells #[.int .i64 a0_0, .int .i64 a0_1] 23 (0, 0)) (by (with_reducible repeat (first | refine blk_drewN ?_ _ | refine blk_drew ?_ | refine blk_alloc ?_ _)); exact BK393.out)) : gb394 ≠ gb393)); clear BK393; clear HB; have BK393 := n0_; have HB := n1_; have BK394 := n2_; have GW394 := n3_; have GE394 := n4_; have NB393_394 := n5_; have NB394_393 := n6_; clear n0_ n1_ n2_ n3_ n4_ n5_ n6_; clear hb hbox hg) | ((with_reducible refine gate_dst (N := 6) rfl ?_); refine box_event ?hg (N := 6) ?hd (cs := #[.int .i64 a2_0, .int .i64 a2_1]) (t := 23) ?hr ?_; (case hd => rfl); (case hg => rfl); (case hr => first | (go_simp; done) | (go_simp; rfl)); intro gb395 hg w12 hbox hb; have n0_ := Aside0.mk (blk_below (g := gb393) (o := .cells #[.int .i64 a0_0, .int .i64 a0_1] 23 (0, 0)) (by (with_reducible repeat (first | refine blk_drewN ?_ _ | refine blk_drew ?_ | refine blk_alloc ?_ _)); exact BK393.out) hb); have n1_ := Aside0.mk (blk_below (g := gb394) (o := .cells #[.int .i64 a1_0, .int .i64 a1_1] 23 (0, 0)) (by (with_reducible repeat (first | refine blk_drewN ?_ _ | refine blk_drew ?_ | refine blk_alloc ?_ _)); exact BK394.out) hb); have n2_ := Aside0.mk (below_step (by repeat (first | (with_reducible first | exact HB.out | apply below_alloc | apply pw_below_drewN | apply below_drew1 | refine below_set ?_ GE393.out | refine below_set ?_ GE394.out) | exact HB.out)) hb); have n3_ := Aside0.mk (hbox); have n4_ := Aside0.mk ((by rw [hg]; exact (below_size (by repeat (first | (with_reducible first | exact HB.out | apply below_alloc | apply pw_below_drewN | apply below_drew1 | refine below_set ?_ GE393.out | refine below_set ?_ GE394.out) | exact HB.out))) : w.heap.size ≤ gb395)); have n5_ := Aside0.mk ((by rw [hg]; exact (below_size (by repeat (first | (with_reducible first | exact HB.out | apply below_alloc | apply pw_below_drewN | apply below_drew1 | refine below_set ?_ GE393.out | refine below_set ?_ GE394.out) | exact HB.out))) : w.heap.size ≤ gb395)); have n6_ := Aside0.mk ((by rw [hg]; exact Nat.ne_of_lt (blk_lt (g := gb393) (o := .cells #[.int .i64 a0_0, .int .i64 a0_1] 23 (0, 0)) (by (with_reducible repeat (first | refine blk_drewN ?_ _ | refine blk_drew ?_ | refine blk_alloc ?_ _)); exact BK393.out)) : gb393 ≠ gb395)); have n7_ := Aside0.mk ((by rw [hg]; exact Nat.ne_of_gt (blk_lt (g := gb393) (o := .cells #[.int .i64 a0_0, .int .i64 a0_1] 23 (0, 0)) (by (with_reducible repeat (first | refine blk_drewN ?_ _ | refine blk_drew ?_ | refine blk_alloc ?_ _)); exact BK393.out)) : gb395 ≠ gb393)); have n8_ := Aside0.mk ((by rw [hg]; exact Nat.ne_of_lt (blk_lt (g := gb394) (o := .cells #[.int .i64 a1_0, .int .i64 a1_1] 23 (0, 0)) (by (with_reducible repeat (first | refine blk_drewN ?_ _ | refine blk_drew ?_ | refine blk_alloc ?_ _)); exact BK394.out)) : gb394 ≠ gb395)); have n9_ := Aside0.mk ((by rw [hg]; exact Nat.ne_of_gt (blk_lt (g := gb394) (o := .cells #[.int .i64 a1_0, .int .i64 a1_1] 23 (0, 0)) (by (with_reducible repeat (first | refine blk_drewN ?_ _ | refine blk_drew ?_ | refine blk_alloc ?_ _)); exact BK394.out)) : gb395 ≠ gb394)); clear BK393; clear BK394; clear HB; have BK393 := n0_; have BK394 := n1_; have HB := n2_; have BK395 := n3_; have GW395 := n4_; have GE395 := n5_; have NB393_395 := n6_; have NB395_393 := n7_; have NB394_395 := n8_; have NB395_394 := n9_; clear n0_ n1_ n2_ n3_ n4_ n5_ n6_ n7_ n8_ n9_; clear hb hbox hg; have hnb13 := NB393_394.out; have hnc13 := NB394_393.out; have hnb14 := NB393_395.out; have hnc14 := NB395_393.out; have hcz15_0 : w12.cell? ⟨gb393, 0, none⟩ = some (.int .i64 a0_0) := (blk_cell BK393.out 0).trans rfl; have hcz15_1 : w12.cell? ⟨gb393, 1, none⟩ = some (.int .i64 a0_1) := (blk_cell BK393.out 1).trans rfl; have hfz15_0 := blk_frozen BK393.out 0; have hfz15_1 := blk_frozen BK393.out 1; have hnb16 := NB394_395.out; have hnc16 := NB395_394.out; have hcz17_0 : w12.cell? ⟨gb394, 0, none⟩ = some (.int .i64 a1_0) := (blk_cell BK394.out 0).trans rfl; have hcz17_1 : w12.cell? ⟨gb394, 1, none⟩ = some (.int .i64 a1_1) := (blk_cell BK394.out 1).trans rfl; have hfz17_0 := blk_frozen BK394.out 0; have hfz17_1 := blk_frozen BK394.out 1) | ((with_reducible refine gate_callee (f := 22) rfl ?_); refine goesL_ (some 31) rfl rfl Tryd.func22 (by kernel_rfl) rfl #[.agg #[.int .i64 a0_0, .int .i64 a0_1], .agg #[.int .i64 a1_0, .int .i64 a1_1]] rfl (by (try simp only [List.map_toArray, List.map_cons, List.map_nil]); first | done | rfl | (simp only [List.length_drop, List.length_take]; rfl)) ?_; (with_reducible refine (deci_Add.calls k a0_0 a0_1 a1_0 a1_1 t396 t397 t398 _ A5.out).mono ?_); rintro e w18 ⟨rfl, hb⟩; refine ⟨_, rfl, ?_⟩; have n0_ := Aside0.mk (blk_below (g := gb393) (o := .cells #[.int .i64 a0_0, .int .i64 a0_1] 23 (0, 0)) (by (with_reducible repeat (first | refine blk_drewN ?_ _ | refine blk_drew ?_ | refine blk_alloc ?_ _)); exact BK393.out) hb); have n1_ := Aside0.mk (blk_below (g := gb394) (o := .cells #[.int .i64 a1_0, .int .i64 a1_1] 23 (0, 0)) (by (with_reducible repeat (first | refine blk_drewN ?_ _ | refine blk_drew ?_ | refine blk_alloc ?_ _)); exact BK394.out) hb); have n2_ := Aside0.mk (blk_below (g := gb395) (o := .cells #[.int .i64 a2_0, .int .i64 a2_1] 23 (0, 0)) (by (with_reducible repeat (first | refine blk_drewN ?_ _ | refine blk_drew ?_ | refine blk_alloc ?_ _)); exact BK395.out) hb); have n3_ := Aside0.mk (below_step (by repeat (first | (with_reducible first | exact HB.out | apply below_alloc | apply pw_below_drewN | apply below_drew1 | refine below_set ?_ GE393.out | refine below_set ?_ GE394.out | refine below_set ?_ GE395.out) | exact HB.out)) hb); clear BK393; clear BK394; clear BK395; clear HB; have BK393 := n0_; have BK394 := n1_; have BK395 := n2_; have HB := n3_; clear n0_ n1_ n2_ n3_; (try clear hb); (try clear hb2); (try clear hk); (try clear hi)) | ((with_reducible refine gate_dst (N := 9) rfl ?_); refine box_event ?hg (N := 9) ?hd (cs := #[.int .i64 0, .int .i64 0]) (t := 23) ?hr ?_; (case hd => rfl); (case hg => rfl); (case hr => first | (go_simp; done) | (go_simp; rfl)); intro gb399 hg w19 hbox hb; have n0_ := Aside0.mk (blk_below (g := gb393) (o := .cells #[.int .i64 a0_0, .int .i64 a0_1] 23 (0, 0)) (by (with_reducible repeat (first | refine blk_drewN ?_ _ | refine blk_drew ?_ | refine blk_alloc ?_ _)); exact BK393.out) hb); have n1_ := Aside0.mk (blk_below (g := gb394) (o := .cells #[.int .i64 a1_0, .int .i64 a1_1] 23 (0, 0)) (by (with_reducible repeat (first | refine blk_drewN ?_ _ | refine blk_drew ?_ | refine blk_alloc ?_ _)); exact BK394.out) hb); have n2_ := Aside0.mk (blk_below (g := gb395) (o := .cells #[.int .i64 a2_0, .int .i64 a2_1] 23 (0, 0)) (by (with_reducible repeat (first | refine blk_drewN ?_ _ | refine blk_drew ?_ | refine blk_alloc ?_ _)); exact BK395.out) hb); have n3_ := Aside0.mk (below_step (by repeat (first | (with_reducible first | exact HB.out | apply below_alloc | apply pw_below_drewN | apply below_drew1 | refine below_set ?_ GE393.out | refine below_set ?_ GE394.out | refine below_set ?_ GE395.out) | exact HB.out)) hb); have n4_ := Aside0.mk (hbox); have n5_ := Aside0.mk ((by rw [hg]; exact (below_size (by repeat (first | (with_reducible first | exact HB.out | apply below_alloc | apply pw_below_drewN | apply below_drew1 | refine below_set ?_ GE393.out | refine below_set ?_ GE394.out | refine below_set ?_ GE395.out) | exact HB.out))) : w.heap.size ≤ gb399)); have n6_ := Aside0.mk ((by rw [hg]; exact (below_size (by repeat (first | (with_reducible first | exact HB.out | apply below_alloc | apply pw_below_drewN | apply below_drew1 | refine below_set ?_ GE393.out | refine below_set ?_ GE394.out | refine below_set ?_ GE395.out) | exact HB.out))) : w.heap.size ≤ gb399)); have n7_ := Aside0.mk ((by rw [hg]; exact Nat.ne_of_lt (blk_lt (g := gb393) (o := .cells #[.int .i64 a0_0, .int .i64 a0_1] 23 (0, 0)) (by (with_reducible repeat (first | refine blk_drewN ?_ _ | refine blk_drew ?_ | refine blk_alloc ?_ _)); exact BK393.out)) : gb393 ≠ gb399)); have n8_ := Aside0.mk ((by rw [hg]; exact Nat.ne_of_gt (blk_lt (g := gb393) (o := .cells #[.int .i64 a0_0, .int .i64 a0_1] 23 (0, 0)) (by (with_reducible repeat (first | refine blk_drewN ?_ _ | refine blk_drew ?_ | refine blk_alloc ?_ _)); exact BK393.out)) : gb399 ≠ gb393)); have n9_ := Aside0.mk ((by rw [hg]; exact Nat.ne_of_lt (blk_lt (g := gb394) (o := .cells #[.int .i64 a1_0, .int .i64 a1_1] 23 (0, 0)) (by (with_reducible repeat (first | refine blk_drewN ?_ _ | refine blk_drew ?_ | refine blk_alloc ?_ _)); exact BK394.out)) : gb394 ≠ gb399)); have n10_ := Aside0.mk ((by rw [hg]; exact Nat.ne_of_gt (blk_lt (g := gb394) (o := .cells #[.int .i64 a1_0, .int .i64 a1_1] 23 (0, 0)) (by (with_reducible repeat (first | refine blk_drewN ?_ _ | refine blk_drew ?_ | refine blk_alloc ?_ _)); exact BK394.out)) : gb399 ≠ gb394)); have n11_ := Aside0.mk ((by rw [hg]; exact Nat.ne_of_lt (blk_lt (g := gb395) (o := .cells #[.int .i64 a2_0, .int .i64 a2_1] 23 (0, 0)) (by (with_reducible repeat (first | refine blk_drewN ?_ _ | refine blk_drew ?_ | refine blk_alloc ?_ _)); exact BK395.out)) : gb395 ≠ gb399)); have n12_ := Aside0.mk ((by rw [hg]; exact Nat.ne_of_gt (blk_lt (g := gb395) (o := .cells #[.int .i64 a2_0, .int .i64 a2_1] 23 (0, 0)) (by (with_reducible repeat (first | refine blk_drewN ?_ _ | refine blk_drew ?_ | refine blk_alloc ?_ _)); exact BK395.out)) : gb399 ≠ gb395)); clear BK393; clear BK394; clear BK395; clear HB; have BK393 := n0_; have BK394 := n1_; have BK395 := n2_; have HB := n3_; have BK399 := n4_; have GW399 := n5_; have GE399 := n6_; have NB393_399 := n7_; have NB399_393 := n8_; have NB394_399 := n9_; have NB399_394 := n10_; have NB395_399 := n11_; have NB399_395 := n12_; clear n0_ n1_ n2_ n3_ n4_ n5_ n6_ n7_ n8_ n9_ n10_ n11_ n12_; clear hb hbox hg; have hnb20 := NB399_393.out; have hnc20 := NB393_399.out; have hnb21 := NB399_394.out; have hnc21 := NB394_399.out; have hnb22 := NB399_395.out; have hnc22 := NB395_399.out; have hcz23_0 : w19.cell? ⟨gb399, 0, none⟩ = some (.int .i64 0) := (blk_cell BK399.out 0).trans rfl; have hcz23_1 : w19.cell? ⟨gb399, 1, none⟩ = some (.int .i64 0) := (blk_cell BK399.out 1).trans rfl; have hfz23_0 := blk_frozen BK399.out 0; have hfz23_1 := blk_frozen BK399.out 1; have hcz24_0 : w19.cell? ⟨gb394, 0, none⟩ = some (.int .i64 a1_0) := (blk_cell BK394.out 0).trans rfl; have hcz24_1 : w19.cell? ⟨gb394, 1, none⟩ = some (.int .i64 a1_1) := (blk_cell BK394.out 1).trans rfl; have hfz24_0 := blk_frozen BK394.out 0; have hfz24_1 := blk_frozen BK394.out 1; have hcz25_0 : w19.cell? ⟨gb393, 0, none⟩ = some (.int .i64 a0_0) := (blk_cell BK393.out 0).trans rfl; have hcz25_1 : w19.cell? ⟨gb393, 1, none⟩ = some (.int .i64 a0_1) := (blk_cell BK393.out 1).trans rfl; have hfz25_0 := blk_frozen BK393.out 0; have hfz25_1 := blk_frozen BK393.out 1) | ((with_reducible refine gate_callee (f := 22) rfl ?_); refine goesL_ (some 37) rfl rfl Tryd.func22 (by kernel_rfl) rfl #[.agg #[.int .i64 a1_0, .int .i64 a1_1], .agg #[.int .i64 a0_0, .int .i64 a0_1]] rfl (by (try simp only [List.map_toArray, List.map_cons, List.map_nil]); first | done | rfl | (simp only [List.length_drop, List.length_take]; rfl)) ?_; (with_reducible refine (deci_Add.calls k a1_0 a1_1 a0_0 a0_1 t400 t401 t402 _ A6.out).mono ?_); rintro e w26 ⟨rfl, hb⟩; refine ⟨_, rfl, ?_⟩; have n0_ := Aside0.mk (blk_below (g := gb393) (o := .cells #[.int .i64 a0_0, .int .i64 a0_1] 23 (0, 0)) (by (with_reducible repeat (first | refine blk_drewN ?_ _ | refine blk_drew ?_ | refine blk_alloc ?_ _)); refine blk_far ?_ NB393_399.out _; (with_reducible repeat (first | refine blk_drewN ?_ _ | refine blk_drew ?_ | refine blk_alloc ?_ _)); refine blk_far ?_ NB393_399.out _; (with_reducible repeat (first | refine blk_drewN ?_ _ | refine blk_drew ?_ | refine blk_alloc ?_ _)); exact BK393.out) hb); have n1_ := Aside0.mk (blk_below (g := gb394) (o := .cells #[.int .i64 a1_0, .int .i64 a1_1] 23 (0, 0)) (by (with_reducible repeat (first | refine blk_drewN ?_ _ | refine blk_drew ?_ | refine blk_alloc ?_ _)); refine blk_far ?_ NB394_399.out _; (with_reducible repeat (first | refine blk_drewN ?_ _ | refine blk_drew ?_ | refine blk_alloc ?_ _)); refine blk_far ?_ NB394_399.out _; (with_reducible repeat (first | refine blk_drewN ?_ _ | refine blk_drew ?_ | refine blk_alloc ?_ _)); exact BK394.out) hb); have n2_ := Aside0.mk (blk_below (g := gb395) (o := .cells #[.int .i64 a2_0, .int .i64 a2_1] 23 (0, 0)) (by (with_reducible repeat (first | refine blk_drewN ?_ _ | refine blk_drew ?_ | refine blk_alloc ?_ _)); refine blk_far ?_ NB395_399.out _; (with_reducible repeat (first | refine blk_drewN ?_ _ | refine blk_drew ?_ | refine blk_alloc ?_ _)); refine blk_far ?_ NB395_399.out _; (with_reducible repeat (first | refine blk_drewN ?_ _ | refine blk_drew ?_ | refine blk_alloc ?_ _)); exact BK395.out) hb); have n3_ := Aside0.mk (blk_below (g := gb399) (o := .cells #[.int .i64 t396, .int .i64 t397] 23 (0, 0)) (by (with_reducible repeat (first | refine blk_drewN ?_ _ | refine blk_drew ?_ | refine blk_alloc ?_ _)); refine blk_put (cs := #[.int .i64 t396, .int .i64 0]) ?_ 1 _ rfl; (with_reducible repeat (first | refine blk_drewN ?_ _ | refine blk_drew ?_ | refine blk_alloc ?_ _)); refine blk_put (cs := #[.int .i64 0, .int .i64 0]) ?_ 0 _ rfl; (with_reducible repeat (first | refine blk_drewN ?_ _ | refine blk_drew ?_ | refine blk_alloc ?_ _)); exact BK399.out) hb); have n4_ := Aside0.mk (below_step (by repeat (first | (with_reducible first | exact HB.out | apply below_alloc | apply pw_below_drewN | apply below_drew1 | refine below_set ?_ GE393.out | refine below_set ?_ GE394.out | refine below_set ?_ GE395.out | refine below_set ?_ GE399.out) | exact HB.out)) hb); clear BK393; clear BK394; clear BK395; clear BK399; clear HB; have BK393 := n0_; have BK394 := n1_; have BK395 := n2_; have BK399 := n3_; have HB := n4_; clear n0_ n1_ n2_ n3_ n4_; (try clear hb); (try clear hb2); (try clear hk); (try clear hi)) | ((with_reducible refine gate_dst (N := 11) rfl ?_); refine box_event ?hg (N := 11) ?hd (cs := #[.int .i64 0, .int .i64 0]) (t := 23) ?hr ?_; (case hd => rfl); (case hg => rfl); (case hr => first | (go_simp; done) | (go_simp; rfl)); intro gb403 hg w27 hbox hb; have n0_ := Aside0.mk (blk_below (g := gb393) (o := .cells #[.int .i64 a0_0, .int .i64 a0_1] 23 (0, 0)) (by (with_reducible repeat (first | refine blk_drewN ?_ _ | refine blk_drew ?_ | refine blk_alloc ?_ _)); exact BK393.out) hb); have n1_ := Aside0.mk (blk_below (g := gb394) (o := .cells #[.int .i64 a1_0, .int .i64 a1_1] 23 (0, 0)) (by (with_reducible repeat (first | refine blk_drewN ?_ _ | refine blk_drew ?_ | refine blk_alloc ?_ _)); exact BK394.out) hb); have n2_ := Aside0.mk (blk_below (g := gb395) (o := .cells #[.int .i64 a2_0, .int .i64 a2_1] 23 (0, 0)) (by (with_reducible repeat (first | refine blk_drewN ?_ _ | refine blk_drew ?_ | refine blk_alloc ?_ _)); exact BK395.out) hb); have n3_ := Aside0.mk (blk_below (g := gb399) (o := .cells #[.int .i64 t396, .int .i64 t397] 23 (0, 0)) (by (with_reducible repeat (first | refine blk_drewN ?_ _ | refine blk_drew ?_ | refine blk_alloc ?_ _)); exact BK399.out) hb); have n4_ := Aside0.mk (below_step (by repeat (first | (with_reducible first | exact HB.out | apply below_alloc | apply pw_below_drewN | apply below_drew1 | refine below_set ?_ GE393.out | refine below_set ?_ GE394.out | refine below_set ?_ GE395.out | refine below_set ?_ GE399.out) | exact HB.out)) hb); have n5_ := Aside0.mk (hbox); have n6_ := Aside0.mk ((by rw [hg]; exact (below_size (by repeat (first | (with_reducible first | exact HB.out | apply below_alloc | apply pw_below_drewN | apply below_drew1 | refine below_set ?_ GE393.out | refine below_set ?_ GE394.out | refine below_set ?_ GE395.out | refine below_set ?_ GE399.out) | exact HB.out))) : w.heap.size ≤ gb403)); have n7_ := Aside0.mk ((by rw [hg]; exact (below_size (by repeat (first | (with_reducible first | exact HB.out | apply below_alloc | apply pw_below_drewN | apply below_drew1 | refine below_set ?_ GE393.out | refine below_set ?_ GE394.out | refine below_set ?_ GE395.out | refine below_set ?_ GE399.out) | exact HB.out))) : w.heap.size ≤ gb403)); have n8_ := Aside0.mk ((by rw [hg]; exact Nat.ne_of_lt (blk_lt (g := gb393) (o := .cells #[.int .i64 a0_0, .int .i64 a0_1] 23 (0, 0)) (by (with_reducible repeat (first | refine blk_drewN ?_ _ | refine blk_drew ?_ | refine blk_alloc ?_ _)); exact BK393.out)) : gb393 ≠ gb403)); have n9_ := Aside0.mk ((by rw [hg]; exact Nat.ne_of_gt (blk_lt (g := gb393) (o := .cells #[.int .i64 a0_0, .int .i64 a0_1] 23 (0, 0)) (by (with_reducible repeat (first | refine blk_drewN ?_ _ | refine blk_drew ?_ | refine blk_alloc ?_ _)); exact BK393.out)) : gb403 ≠ gb393)); have n10_ := Aside0.mk ((by rw [hg]; exact Nat.ne_of_lt (blk_lt (g := gb394) (o := .cells #[.int .i64 a1_0, .int .i64 a1_1] 23 (0, 0)) (by (with_reducible repeat (first | refine blk_drewN ?_ _ | refine blk_drew ?_ | refine blk_alloc ?_ _)); exact BK394.out)) : gb394 ≠ gb403)); have n11_ := Aside0.mk ((by rw [hg]; exact Nat.ne_of_gt (blk_lt (g := gb394) (o := .cells #[.int .i64 a1_0, .int .i64 a1_1] 23 (0, 0)) (by (with_reducible repeat (first | refine blk_drewN ?_ _ | refine blk_drew ?_ | refine blk_alloc ?_ _)); exact BK394.out)) : gb403 ≠ gb394)); have n12_ := Aside0.mk ((by rw [hg]; exact Nat.ne_of_lt (blk_lt (g := gb395) (o := .cells #[.int .i64 a2_0, .int .i64 a2_1] 23 (0, 0)) (by (with_reducible repeat (first | refine blk_drewN ?_ _ | refine blk_drew ?_ | refine blk_alloc ?_ _)); exact BK395.out)) : gb395 ≠ gb403)); have n13_ := Aside0.mk ((by rw [hg]; exact Nat.ne_of_gt (blk_lt (g := gb395) (o := .cells #[.int .i64 a2_0, .int .i64 a2_1] 23 (0, 0)) (by (with_reducible repeat (first | refine blk_drewN ?_ _ | refine blk_drew ?_ | refine blk_alloc ?_ _)); exact BK395.out)) : gb403 ≠ gb395)); have n14_ := Aside0.mk ((by rw [hg]; exact Nat.ne_of_lt (blk_lt (g := gb399) (o := .cells #[.int .i64 t396, .int .i64 t397] 23 (0, 0)) (by (with_reducible repeat (first | refine blk_drewN ?_ _ | refine blk_drew ?_ | refine blk_alloc ?_ _)); exact BK399.out)) : gb399 ≠ gb403)); have n15_ := Aside0.mk ((by rw [hg]; exact Nat.ne_of_gt (blk_lt (g := gb399) (o := .cells #[.int .i64 t396, .int .i64 t397] 23 (0, 0)) (by (with_reducible repeat (first | refine blk_drewN ?_ _ | refine blk_drew ?_ | refine blk_alloc ?_ _)); exact BK399.out)) : gb403 ≠ gb399)); clear BK393; clear BK394; clear BK395; clear BK399; clear HB; have BK393 := n0_; have BK394 := n1_; have BK395 := n2_; have BK399 := n3_; have HB := n4_; have BK403 := n5_; have GW403 := n6_; have GE403 := n7_; have NB393_403 := n8_; have NB403_393 := n9_; have NB394_403 := n10_; have NB403_394 := n11_; have NB395_403 := n12_; have NB403_395 := n13_; have NB399_403 := n14_; have NB403_399 := n15_; clear n0_ n1_ n2_ n3_ n4_ n5_ n6_ n7_ n8_ n9_ n10_ n11_ n12_ n13_ n14_ n15_; clear hb hbox hg; have hnb28 := NB403_393.out; have hnc28 := NB393_403.out; have hnb29 := NB403_394.out; have hnc29 := NB394_403.out; have hnb30 := NB403_395.out; have hnc30 := NB395_403.out; have hnb31 := NB403_399.out; have hnc31 := NB399_403.out; have hcz32_0 : w27.cell? ⟨gb403, 0, none⟩ = some (.int .i64 0) := (blk_cell BK403.out 0).trans rfl; have hcz32_1 : w27.cell? ⟨gb403, 1, none⟩ = some (.int .i64 0) := (blk_cell BK403.out 1).trans rfl; have hfz32_0 := blk_frozen BK403.out 0; have hfz32_1 := blk_frozen BK403.out 1; have hcz33_0 : w27.cell? ⟨gb393, 0, none⟩ = some (.int .i64 a0_0) := (blk_cell BK393.out 0).trans rfl; have hcz33_1 : w27.cell? ⟨gb393, 1, none⟩ = some (.int .i64 a0_1) := (blk_cell BK393.out 1).trans rfl; have hfz33_0 := blk_frozen BK393.out 0; have hfz33_1 := blk_frozen BK393.out 1; have hcz34_0 : w27.cell? ⟨gb394, 0, none⟩ = some (.int .i64 a1_0) := (blk_cell BK394.out 0).trans rfl; have hcz34_1 : w27.cell? ⟨gb394, 1, none⟩ = some (.int .i64 a1_1) := (blk_cell BK394.out 1).trans rfl; have hfz34_0 := blk_frozen BK394.out 0; have hfz34_1 := blk_frozen BK394.out 1) | ((with_reducible refine gate_callee (f := 24) rfl ?_); refine goesL_ (some 43) rfl rfl Tryd.func24 (by kernel_rfl) rfl #[.agg #[.int .i64 a0_0, .int .i64 a0_1], .agg #[.int .i64 a1_0, .int .i64 a1_1]] rfl (by (try simp only [List.map_toArray, List.map_cons, List.map_nil]); first | done | rfl | (simp only [List.length_drop, List.length_take]; rfl)) ?_; (with_reducible refine (deci_Mul.calls k a0_0 a0_1 a1_0 a1_1 t404 t405 t406 _ A7.out).mono ?_); rintro e w35 ⟨rfl, hb⟩; refine ⟨_, rfl, ?_⟩; have n0_ := Aside0.mk (blk_below (g := gb393) (o := .cells #[.int .i64 a0_0, .int .i64 a0_1] 23 (0, 0)) (by (with_reducible repeat (first | refine blk_drewN ?_ _ | refine blk_drew ?_ | refine blk_alloc ?_ _)); refine blk_far ?_ NB393_403.out _; (with_reducible repeat (first | refine blk_drewN ?_ _ | refine blk_drew ?_ | refine blk_alloc ?_ _)); refine blk_far ?_ NB393_403.out _; (with_reducible repeat (first | refine blk_drewN ?_ _ | refine blk_drew ?_ | refine blk_alloc ?_ _)); exact BK393.out) hb); have n1_ := Aside0.mk (blk_below (g := gb394) (o := .cells #[.int .i64 a1_0, .int .i64 a1_1] 23 (0, 0)) (by (with_reducible repeat (first | refine blk_drewN ?_ _ | refine blk_drew ?_ | refine blk_alloc ?_ _)); refine blk_far ?_ NB394_403.out _; (with_reducible repeat (first | refine blk_drewN ?_ _ | refine blk_drew ?_ | refine blk_alloc ?_ _)); refine blk_far ?_ NB394_403.out _; (with_reducible repeat (first | refine blk_drewN ?_ _ | refine blk_drew ?_ | refine blk_alloc ?_ _)); exact BK394.out) hb); have n2_ := Aside0.mk (blk_below (g := gb395) (o := .cells #[.int .i64 a2_0, .int .i64 a2_1] 23 (0, 0)) (by (with_reducible repeat (first | refine blk_drewN ?_ _ | refine blk_drew ?_ | refine blk_alloc ?_ _)); refine blk_far ?_ NB395_403.out _; (with_reducible repeat (first | refine blk_drewN ?_ _ | refine blk_drew ?_ | refine blk_alloc ?_ _)); refine blk_far ?_ NB395_403.out _; (with_reducible repeat (first | refine blk_drewN ?_ _ | refine blk_drew ?_ | refine blk_alloc ?_ _)); exact BK395.out) hb); have n3_ := Aside0.mk (blk_below (g := gb399) (o := .cells #[.int .i64 t396, .int .i64 t397] 23 (0, 0)) (by (with_reducible repeat (first | refine blk_drewN ?_ _ | refine blk_drew ?_ | refine blk_alloc ?_ _)); refine blk_far ?_ NB399_403.out _; (with_reducible repeat (first | refine blk_drewN ?_ _ | refine blk_drew ?_ | refine blk_alloc ?_ _)); refine blk_far ?_ NB399_403.out _; (with_reducible repeat (first | refine blk_drewN ?_ _ | refine blk_drew ?_ | refine blk_alloc ?_ _)); exact BK399.out) hb); have n4_ := Aside0.mk (blk_below (g := gb403) (o := .cells #[.int .i64 t400, .int .i64 t401] 23 (0, 0)) (by (with_reducible repeat (first | refine blk_drewN ?_ _ | refine blk_drew ?_ | refine blk_alloc ?_ _)); refine blk_put (cs := #[.int .i64 t400, .int .i64 0]) ?_ 1 _ rfl; (with_reducible repeat (first | refine blk_drewN ?_ _ | refine blk_drew ?_ | refine blk_alloc ?_ _)); refine blk_put (cs := #[.int .i64 0, .int .i64 0]) ?_ 0 _ rfl; (with_reducible repeat (first | refine blk_drewN ?_ _ | refine blk_drew ?_ | refine blk_alloc ?_ _)); exact BK403.out) hb); have n5_ := Aside0.mk (below_step (by repeat (first | (with_reducible first | exact HB.out | apply below_alloc | apply pw_below_drewN | apply below_drew1 | refine below_set ?_ GE393.out | refine below_set ?_ GE394.out | refine below_set ?_ GE395.out | refine below_set ?_ GE399.out | refine below_set ?_ GE403.out) | exact HB.out)) hb); clear BK393; clear BK394; clear BK395; clear BK399; clear BK403; clear HB; have BK393 := n0_; have BK394 := n1_; have BK395 := n2_; have BK399 := n3_; have BK403 := n4_; have HB := n5_; clear n0_ n1_ n2_ n3_ n4_ n5_; (try clear hb); (try clear hb2); (try clear hk); (try clear hi)) | ((with_reducible refine gate_dst (N := 13) rfl ?_); refine box_event ?hg (N := 13) ?hd (cs := #[.int .i64 0, .int .i64 0]) (t := 23) ?hr ?_; (case hd => rfl); (case hg => rfl); (case hr => first | (go_simp; done) | (go_simp; rfl)); intro gb407 hg w36 hbox hb; have n0_ := Aside0.mk (blk_below (g := gb393) (o := .cells #[.int .i64 a0_0, .int .i64 a0_1] 23 (0, 0)) (by (with_reducible repeat (first | refine blk_drewN ?_ _ | refine blk_drew ?_ | refine blk_alloc ?_ _)); exact BK393.out) hb); have n1_ := Aside0.mk (blk_below (g := gb394) (o := .cells #[.int .i64 a1_0, .int .i64 a1_1] 23 (0, 0)) (by (with_reducible repeat (first | refine blk_drewN ?_ _ | refine blk_drew ?_ | refine blk_alloc ?_ _)); exact BK394.out) hb); have n2_ := Aside0.mk (blk_below (g := gb395) (o := .cells #[.int .i64 a2_0, .int .i64 a2_1] 23 (0, 0)) (by (with_reducible repeat (first | refine blk_drewN ?_ _ | refine blk_drew ?_ | refine blk_alloc ?_ _)); exact BK395.out) hb); have n3_ := Aside0.mk (blk_below (g := gb399) (o := .cells #[.int .i64 t396, .int .i64 t397] 23 (0, 0)) (by (with_reducible repeat (first | refine blk_drewN ?_ _ | refine blk_drew ?_ | refine blk_alloc ?_ _)); exact BK399.out) hb); have n4_ := Aside0.mk (blk_below (g := gb403) (o := .cells #[.int .i64 t400, .int .i64 t401] 23 (0, 0)) (by (with_reducible repeat (first | refine blk_drewN ?_ _ | refine blk_drew ?_ | refine blk_alloc ?_ _)); exact BK403.out) hb); have n5_ := Aside0.mk (below_step (by repeat (first | (with_reducible first | exact HB.out | apply below_alloc | apply pw_below_drewN | apply below_drew1 | refine below_set ?_ GE393.out | refine below_set ?_ GE394.out | refine below_set ?_ GE395.out | refine below_set ?_ GE399.out | refine below_set ?_ GE403.out) | exact HB.out)) hb); have n6_ := Aside0.mk (hbox); have n7_ := Aside0.mk ((by rw [hg]; exact (below_size (by repeat (first | (with_reducible first | exact HB.out | apply below_alloc | apply pw_below_drewN | apply below_drew1 | refine below_set ?_ GE393.out | refine below_set ?_ GE394.out | refine below_set ?_ GE395.out | refine below_set ?_ GE399.out | refine below_set ?_ GE403.out) | exact HB.out))) : w.heap.size ≤ gb407)); have n8_ := Aside0.mk ((by rw [hg]; exact (below_size (by repeat (first | (with_reducible first | exact HB.out | apply below_alloc | apply pw_below_drewN | apply below_drew1 | refine below_set ?_ GE393.out | refine below_set ?_ GE394.out | refine below_set ?_ GE395.out | refine below_set ?_ GE399.out | refine below_set ?_ GE403.out) | exact HB.out))) : w.heap.size ≤ gb407)); have n9_ := Aside0.mk ((by rw [hg]; exact Nat.ne_of_lt (blk_lt (g := gb393) (o := .cells #[.int .i64 a0_0, .int .i64 a0_1] 23 (0, 0)) (by (with_reducible repeat (first | refine blk_drewN ?_ _ | refine blk_drew ?_ | refine blk_alloc ?_ _)); exact BK393.out)) : gb393 ≠ gb407)); have n10_ := Aside0.mk ((by rw [hg]; exact Nat.ne_of_gt (blk_lt (g := gb393) (o := .cells #[.int .i64 a0_0, .int .i64 a0_1] 23 (0, 0)) (by (with_reducible repeat (first | refine blk_drewN ?_ _ | refine blk_drew ?_ | refine blk_alloc ?_ _)); exact BK393.out)) : gb407 ≠ gb393)); have n11_ := Aside0.mk ((by rw [hg]; exact Nat.ne_of_lt (blk_lt (g := gb394) (o := .cells #[.int .i64 a1_0, .int .i64 a1_1] 23 (0, 0)) (by (with_reducible repeat (first | refine blk_drewN ?_ _ | refine blk_drew ?_ | refine blk_alloc ?_ _)); exact BK394.out)) : gb394 ≠ gb407)); have n12_ := Aside0.mk ((by rw [hg]; exact Nat.ne_of_gt (blk_lt (g := gb394) (o := .cells #[.int .i64 a1_0, .int .i64 a1_1] 23 (0, 0)) (by (with_reducible repeat (first | refine blk_drewN ?_ _ | refine blk_drew ?_ | refine blk_alloc ?_ _)); exact BK394.out)) : gb407 ≠ gb394)); have n13_ := Aside0.mk ((by rw [hg]; exact Nat.ne_of_lt (blk_lt (g := gb395) (o := .cells #[.int .i64 a2_0, .int .i64 a2_1] 23 (0, 0)) (by (with_reducible repeat (first | refine blk_drewN ?_ _ | refine blk_drew ?_ | refine blk_alloc ?_ _)); exact BK395.out)) : gb395 ≠ gb407)); have n14_ := Aside0.mk ((by rw [hg]; exact Nat.ne_of_gt (blk_lt (g := gb395) (o := .cells #[.int .i64 a2_0, .int .i64 a2_1] 23 (0, 0)) (by (with_reducible repeat (first | refine blk_drewN ?_ _ | refine blk_drew ?_ | refine blk_alloc ?_ _)); exact BK395.out)) : gb407 ≠ gb395)); have n15_ := Aside0.mk ((by rw [hg]; exact Nat.ne_of_lt (blk_lt (g := gb399) (o := .cells #[.int .i64 t396, .int .i64 t397] 23 (0, 0)) (by (with_reducible repeat (first | refine blk_drewN ?_ _ | refine blk_drew ?_ | refine blk_alloc ?_ _)); exact BK399.out)) : gb399 ≠ gb407)); have n16_ := Aside0.mk ((by rw [hg]; exact Nat.ne_of_gt (blk_lt (g := gb399) (o := .cells #[.int .i64 t396, .int .i64 t397] 23 (0, 0)) (by (with_reducible repeat (first | refine blk_drewN ?_ _ | refine blk_drew ?_ | refine blk_alloc ?_ _)); exact BK399.out)) : gb407 ≠ gb399)); have n17_ := Aside0.mk ((by rw [hg]; exact Nat.ne_of_lt (blk_lt (g := gb403) (o := .cells #[.int .i64 t400, .int .i64 t401] 23 (0, 0)) (by (with_reducible repeat (first | refine blk_drewN ?_ _ | refine blk_drew ?_ | refine blk_alloc ?_ _)); exact BK403.out)) : gb403 ≠ gb407)); have n18_ := Aside0.mk ((by rw [hg]; exact Nat.ne_of_gt (blk_lt (g := gb403) (o := .cells #[.int .i64 t400, .int .i64 t401] 23 (0, 0)) (by (with_reducible repeat (first | refine blk_drewN ?_ _ | refine blk_drew ?_ | refine blk_alloc ?_ _)); exact BK403.out)) : gb407 ≠ gb403)); clear BK393; clear BK394; clear BK395; clear BK399; clear BK403; clear HB; have BK393 := n0_; have BK394 := n1_; have BK395 := n2_; have BK399 := n3_; have BK403 := n4_; have HB := n5_; have BK407 := n6_; have GW407 := n7_; have GE407 := n8_; have NB393_407 := n9_; have NB407_393 := n10_; have NB394_407 := n11_; have NB407_394 := n12_; have NB395_407 := n13_; have NB407_395 := n14_; have NB399_407 := n15_; have NB407_399 := n16_; have NB403_407 := n17_; have NB407_403 := n18_; clear n0_ n1_ n2_ n3_ n4_ n5_ n6_ n7_ n8_ n9_ n10_ n11_ n12_ n13_ n14_ n15_ n16_ n17_ n18_; clear hb hbox hg; have hnb37 := NB407_393.out; have hnc37 := NB393_407.out; have hnb38 := NB407_394.out; have hnc38 := NB394_407.out; have hnb39 := NB407_395.out; have hnc39 := NB395_407.out; have hnb40 := NB407_399.out; have hnc40 := NB399_407.out; have hnb41 := NB407_403.out; have hnc41 := NB403_407.out; have hcz42_0 : w36.cell? ⟨gb407, 0, none⟩ = some (.int .i64 0) := (blk_cell BK407.out 0).trans rfl; have hcz42_1 : w36.cell? ⟨gb407, 1, none⟩ = some (.int .i64 0) := (blk_cell BK407.out 1).trans rfl; have hfz42_0 := blk_frozen BK407.out 0; have hfz42_1 := blk_frozen BK407.out 1; have hcz43_0 : w36.cell? ⟨gb394, 0, none⟩ = some (.int .i64 a1_0) := (blk_cell BK394.out 0).trans rfl; have hcz43_1 : w36.cell? ⟨gb394, 1, none⟩ = some (.int .i64 a1_1) := (blk_cell BK394.out 1).trans rfl; have hfz43_0 := blk_frozen BK394.out 0; have hfz43_1 := blk_frozen BK394.out 1; have hcz44_0 : w36.cell? ⟨gb393, 0, none⟩ = some (.int .i64 a0_0) := (blk_cell BK393.out 0).trans rfl; have hcz44_1 : w36.cell? ⟨gb393, 1, none⟩ = some (.int .i64 a0_1) := (blk_cell BK393.out 1).trans rfl; have hfz44_0 := blk_frozen BK393.out 0; have hfz44_1 := blk_frozen BK393.out 1) | ((with_reducible refine gate_callee (f := 24) rfl ?_); refine goesL_ (some 49) rfl rfl Tryd.func24 (by kernel_rfl) rfl #[.agg #[.int .i64 a1_0, .int .i64 a1_1], .agg #[.int .i64 a0_0, .int .i64 a0_1]] rfl (by (try simp only [List.map_toArray, List.map_cons, List.map_nil]); first | done | rfl | (simp only [List.length_drop, List.length_take]; rfl)) ?_; (with_reducible refine (deci_Mul.calls k a1_0 a1_1 a0_0 a0_1 t408 t409 t410 _ A8.out).mono ?_); rintro e w45 ⟨rfl, hb⟩; refine ⟨_, rfl, ?_⟩; have n0_ := Aside0.mk (blk_below (g := gb393) (o := .cells #[.int .i64 a0_0, .int .i64 a0_1] 23 (0, 0)) (by (with_reducible repeat (first | refine blk_drewN ?_ _ | refine blk_drew ?_ | refine blk_alloc ?_ _)); refine blk_far ?_ NB393_407.out _; (with_reducible repeat (first | refine blk_drewN ?_ _ | refine blk_drew ?_ | refine blk_alloc ?_ _)); refine blk_far ?_ NB393_407.out _; (with_reducible repeat (first | refine blk_drewN ?_ _ | refine blk_drew ?_ | refine blk_alloc ?_ _)); exact BK393.out) hb); have n1_ := Aside0.mk (blk_below (g := gb394) (o := .cells #[.int .i64 a1_0, .int .i64 a1_1] 23 (0, 0)) (by (with_reducible repeat (first | refine blk_drewN ?_ _ | refine blk_drew ?_ | refine blk_alloc ?_ _)); refine blk_far ?_ NB394_407.out _; (with_reducible repeat (first | refine blk_drewN ?_ _ | refine blk_drew ?_ | refine blk_alloc ?_ _)); refine blk_far ?_ NB394_407.out _; (with_reducible repeat (first | refine blk_drewN ?_ _ | refine blk_drew ?_ | refine blk_alloc ?_ _)); exact BK394.out) hb); have n2_ := Aside0.mk (blk_below (g := gb395) (o := .cells #[.int .i64 a2_0, .int .i64 a2_1] 23 (0, 0)) (by (with_reducible repeat (first | refine blk_drewN ?_ _ | refine blk_drew ?_ | refine blk_alloc ?_ _)); refine blk_far ?_ NB395_407.out _; (with_reducible repeat (first | refine blk_drewN ?_ _ | refine blk_drew ?_ | refine blk_alloc ?_ _)); refine blk_far ?_ NB395_407.out _; (with_reducible repeat (first | refine blk_drewN ?_ _ | refine blk_drew ?_ | refine blk_alloc ?_ _)); exact BK395.out) hb); have n3_ := Aside0.mk (blk_below (g := gb399) (o := .cells #[.int .i64 t396, .int .i64 t397] 23 (0, 0)) (by (with_reducible repeat (first | refine blk_drewN ?_ _ | refine blk_drew ?_ | refine blk_alloc ?_ _)); refine blk_far ?_ NB399_407.out _; (with_reducible repeat (first | refine blk_drewN ?_ _ | refine blk_drew ?_ | refine blk_alloc ?_ _)); refine blk_far ?_ NB399_407.out _; (with_reducible repeat (first | refine blk_drewN ?_ _ | refine blk_drew ?_ | refine blk_alloc ?_ _)); exact BK399.out) hb); have n4_ := Aside0.mk (blk_below (g := gb403) (o := .cells #[.int .i64 t400, .int .i64 t401] 23 (0, 0)) (by (with_reducible repeat (first | refine blk_drewN ?_ _ | refine blk_drew ?_ | refine blk_alloc ?_ _)); refine blk_far ?_ NB403_407.out _; (with_reducible repeat (first | refine blk_drewN ?_ _ | refine blk_drew ?_ | refine blk_alloc ?_ _)); refine blk_far ?_ NB403_407.out _; (with_reducible repeat (first | refine blk_drewN ?_ _ | refine blk_drew ?_ | refine blk_alloc ?_ _)); exact BK403.out) hb); have n5_ := Aside0.mk (blk_below (g := gb407) (o := .cells #[.int .i64 t404, .int .i64 t405] 23 (0, 0)) (by (with_reducible repeat (first | refine blk_drewN ?_ _ | refine blk_drew ?_ | refine blk_alloc ?_ _)); refine blk_put (cs := #[.int .i64 t404, .int .i64 0]) ?_ 1 _ rfl; (with_reducible repeat (first | refine blk_drewN ?_ _ | refine blk_drew ?_ | refine blk_alloc ?_ _)); refine blk_put (cs := #[.int .i64 0, .int .i64 0]) ?_ 0 _ rfl; (with_reducible repeat (first | refine blk_drewN ?_ _ | refine blk_drew ?_ | refine blk_alloc ?_ _)); exact BK407.out) hb); have n6_ := Aside0.mk (below_step (by repeat (first | (with_reducible first | exact HB.out | apply below_alloc | apply pw_below_drewN | apply below_drew1 | refine below_set ?_ GE393.out | refine below_set ?_ GE394.out | refine below_set ?_ GE395.out | refine below_set ?_ GE399.out | refine below_set ?_ GE403.out | refine below_set ?_ GE407.out) | exact HB.out)) hb); clear BK393; clear BK394; clear BK395; clear BK399; clear BK403; clear BK407; clear HB; have BK393 := n0_; have BK394 := n1_; have BK395 := n2_; have BK399 := n3_; have BK403 := n4_; have BK407 := n5_; have HB := n6_; clear n0_ n1_ n2_ n3_ n4_ n5_ n6_; (try clear hb); (try clear hb2); (try clear hk); (try clear hi)) | ((with_reducible refine gate_dst (N := 15) rfl ?_); refine box_event ?hg (N := 15) ?hd (cs := #[.int .i64 0, .int .i64 0]) (t := 23) ?hr ?_; (case hd => rfl); (case hg => rfl); (case hr => first | (go_simp; done) | (go_simp; rfl)); intro gb411 hg w46 hbox hb; have n0_ := Aside0.mk (blk_below (g := gb393) (o := .cells #[.int .i64 a0_0, .int .i64 a0_1] 23 (0, 0)) (by (with_reducible repeat (first | refine blk_drewN ?_ _ | refine blk_drew ?_ | refine blk_alloc ?_ _)); exact BK393.out) hb); have n1_ := Aside0.mk (blk_below (g := gb394) (o := .cells #[.int .i64 a1_0, .int .i64 a1_1] 23 (0, 0)) (by (with_reducible repeat (first | refine blk_drewN ?_ _ | refine blk_drew ?_ | refine blk_alloc ?_ _)); exact BK394.out) hb); have n2_ := Aside0.mk (blk_below (g := gb395) (o := .cells #[.int .i64 a2_0, .int .i64 a2_1] 23 (0, 0)) (by (with_reducible repeat (first | refine blk_drewN ?_ _ | refine blk_drew ?_ | refine blk_alloc ?_ _)); exact BK395.out) hb); have n3_ := Aside0.mk (blk_below (g := gb399) (o := .cells #[.int .i64 t396, .int .i64 t397] 23 (0, 0)) (by (with_reducible repeat (first | refine blk_drewN ?_ _ | refine blk_drew ?_ | refine blk_alloc ?_ _)); exact BK399.out) hb); have n4_ := Aside0.mk (blk_below (g := gb403) (o := .cells #[.int .i64 t400, .int .i64 t401] 23 (0, 0)) (by (with_reducible repeat (first | refine blk_drewN ?_ _ | refine blk_drew ?_ | refine blk_alloc ?_ _)); exact BK403.out) hb); have n5_ := Aside0.mk (blk_below (g := gb407) (o := .cells #[.int .i64 t404, .int .i64 t405] 23 (0, 0)) (by (with_reducible repeat (first | refine blk_drewN ?_ _ | refine blk_drew ?_ | refine blk_alloc ?_ _)); exact BK407.out) hb); have n6_ := Aside0.mk (below_step (by repeat (first | (with_reducible first | exact HB.out | apply below_alloc | apply pw_below_drewN | apply below_drew1 | refine below_set ?_ GE393.out | refine below_set ?_ GE394.out | refine below_set ?_ GE395.out | refine below_set ?_ GE399.out | refine below_set ?_ GE403.out | refine below_set ?_ GE407.out) | exact HB.out)) hb); have n7_ := Aside0.mk (hbox); have n8_ := Aside0.mk ((by rw [hg]; exact (below_size (by repeat (first | (with_reducible first | exact HB.out | apply below_alloc | apply pw_below_drewN | apply below_drew1 | refine below_set ?_ GE393.out | refine below_set ?_ GE394.out | refine below_set ?_ GE395.out | refine below_set ?_ GE399.out | refine below_set ?_ GE403.out | refine below_set ?_ GE407.out) | exact HB.out))) : w.heap.size ≤ gb411)); have n9_ := Aside0.mk ((by rw [hg]; exact (below_size (by repeat (first | (with_reducible first | exact HB.out | apply below_alloc | apply pw_below_drewN | apply below_drew1 | refine below_set ?_ GE393.out | refine below_set ?_ GE394.out | refine below_set ?_ GE395.out | refine below_set ?_ GE399.out | refine below_set ?_ GE403.out | refine below_set ?_ GE407.out) | exact HB.out))) : w.heap.size ≤ gb411)); have n10_ := Aside0.mk ((by rw [hg]; exact Nat.ne_of_lt (blk_lt (g := gb393) (o := .cells #[.int .i64 a0_0, .int .i64 a0_1] 23 (0, 0)) (by (with_reducible repeat (first | refine blk_drewN ?_ _ | refine blk_drew ?_ | refine blk_alloc ?_ _)); exact BK393.out)) : gb393 ≠ gb411)); have n11_ := Aside0.mk ((by rw [hg]; exact Nat.ne_of_gt (blk_lt (g := gb393) (o := .cells #[.int .i64 a0_0, .int .i64 a0_1] 23 (0, 0)) (by (with_reducible repeat (first | refine blk_drewN ?_ _ | refine blk_drew ?_ | refine blk_alloc ?_ _)); exact BK393.out)) : gb411 ≠ gb393)); have n12_ := Aside0.mk ((by rw [hg]; exact Nat.ne_of_lt (blk_lt (g := gb394) (o := .cells #[.int .i64 a1_0, .int .i64 a1_1] 23 (0, 0)) (by (with_reducible repeat (first | refine blk_drewN ?_ _ | refine blk_drew ?_ | refine blk_alloc ?_ _)); exact BK394.out)) : gb394 ≠ gb411)); have n13_ := Aside0.mk ((by rw [hg]; exact Nat.ne_of_gt (blk_lt (g := gb394) (o := .cells #[.int .i64 a1_0, .int .i64 a1_1] 23 (0, 0)) (by (with_reducible repeat (first | refine blk_drewN ?_ _ | refine blk_drew ?_ | refine blk_alloc ?_ _)); exact BK394.out)) : gb411 ≠ gb394)); have n14_ := Aside0.mk ((by rw [hg]; exact Nat.ne_of_lt (blk_lt (g := gb395) (o := .cells #[.int .i64 a2_0, .int .i64 a2_1] 23 (0, 0)) (by (with_reducible repeat (first | refine blk_drewN ?_ _ | refine blk_drew ?_ | refine blk_alloc ?_ _)); exact BK395.out)) : gb395 ≠ gb411)); have n15_ := Aside0.mk ((by rw [hg]; exact Nat.ne_of_gt (blk_lt (g := gb395) (o := .cells #[.int .i64 a2_0, .int .i64 a2_1] 23 (0, 0)) (by (with_reducible repeat (first | refine blk_drewN ?_ _ | refine blk_drew ?_ | refine blk_alloc ?_ _)); exact BK395.out)) : gb411 ≠ gb395)); have n16_ := Aside0.mk ((by rw [hg]; exact Nat.ne_of_lt (blk_lt (g := gb399) (o := .cells #[.int .i64 t396, .int .i64 t397] 23 (0, 0)) (by (with_reducible repeat (first | refine blk_drewN ?_ _ | refine blk_drew ?_ | refine blk_alloc ?_ _)); exact BK399.out)) : gb399 ≠ gb411)); have n17_ := Aside0.mk ((by rw [hg]; exact Nat.ne_of_gt (blk_lt (g := gb399) (o := .cells #[.int .i64 t396, .int .i64 t397] 23 (0, 0)) (by (with_reducible repeat (first | refine blk_drewN ?_ _ | refine blk_drew ?_ | refine blk_alloc ?_ _)); exact BK399.out)) : gb411 ≠ gb399)); have n18_ := Aside0.mk ((by rw [hg]; exact Nat.ne_of_lt (blk_lt (g := gb403) (o := .cells #[.int .i64 t400, .int .i64 t401] 23 (0, 0)) (by (with_reducible repeat (first | refine blk_drewN ?_ _ | refine blk_drew ?_ | refine blk_alloc ?_ _)); exact BK403.out)) : gb403 ≠ gb411)); have n19_ := Aside0.mk ((by rw [hg]; exact Nat.ne_of_gt (blk_lt (g := gb403) (o := .cells #[.int .i64 t400, .int .i64 t401] 23 (0, 0)) (by (with_reducible repeat (first | refine blk_drewN ?_ _ | refine blk_drew ?_ | refine blk_alloc ?_ _)); exact BK403.out)) : gb411 ≠ gb403)); have n20_ := Aside0.mk ((by rw [hg]; exact Nat.ne_of_lt (blk_lt (g := gb407) (o := .cells #[.int .i64 t404, .int .i64 t405] 23 (0, 0)) (by (with_reducible repeat (first | refine blk_drewN ?_ _ | refine blk_drew ?_ | refine blk_alloc ?_ _)); exact BK407.out)) : gb407 ≠ gb411)); have n21_ := Aside0.mk ((by rw [hg]; exact Nat.ne_of_gt (blk_lt (g := gb407) (o := .cells #[.int .i64 t404, .int .i64 t405] 23 (0, 0)) (by (with_reducible repeat (first | refine blk_drewN ?_ _ | refine blk_drew ?_ | refine blk_alloc ?_ _)); exact BK407.out)) : gb411 ≠ gb407)); clear BK393; clear BK394; clear BK395; clear BK399; clear BK403; clear BK407; clear HB; have BK393 := n0_; have BK394 := n1_; have BK395 := n2_; have BK399 := n3_; have BK403 := n4_; have BK407 := n5_; have HB := n6_; have BK411 := n7_; have GW411 := n8_; have GE411 := n9_; have NB393_411 := n10_; have NB411_393 := n11_; have NB394_411 := n12_; have NB411_394 := n13_; have NB395_411 := n14_; have NB411_395 := n15_; have NB399_411 := n16_; have NB411_399 := n17_; have NB403_411 := n18_; have NB411_403 := n19_; have NB407_411 := n20_; have NB411_407 := n21_; clear n0_ n1_ n2_ n3_ n4_ n5_ n6_ n7_ n8_ n9_ n10_ n11_ n12_ n13_ n14_ n15_ n16_ n17_ n18_ n19_ n20_ n21_; clear hb hbox hg; have hnb47 := NB411_393.out; have hnc47 := NB393_411.out; have hnb48 := NB411_394.out; have hnc48 := NB394_411.out; have hnb49 := NB411_395.out; have hnc49 := NB395_411.out; have hnb50 := NB411_399.out; have hnc50 := NB399_411.out; have hnb51 := NB411_403.out; have hnc51 := NB403_411.out; have hnb52 := NB411_407.out; have hnc52 := NB407_411.out; have hcz53_0 : w46.cell? ⟨gb411, 0, none⟩ = some (.int .i64 0) := (blk_cell BK411.out 0).trans rfl; have hcz53_1 : w46.cell? ⟨gb411, 1, none⟩ = some (.int .i64 0) := (blk_cell BK411.out 1).trans rfl; have hfz53_0 := blk_frozen BK411.out 0; have hfz53_1 := blk_frozen BK411.out 1))
  (try simp only [Act.put, List.setIfInBounds_toArray, List.set_cons_zero, List.set_cons_succ])
  go_cut [73] (fun v73 wc => ∃ (kq : Nat) (x73_8 : Bool), v73 = .bool x73_8 ∧ Aside0 (soffitlaw01_DeciLaws.j0 kq a3 t398 x73_8 a0_0 a0_1 a1_0 a1_1 a2_0 a2_1 t396 t397 = some r) ∧ Aside0 (kq ≤ k) ∧ Aside0 (wc.heap[gb393]? = some (.cells #[.int .i64 a0_0, .int .i64 a0_1] 23 (0, 0))) ∧ Aside0 (wc.heap[gb394]? = some (.cells #[.int .i64 a1_0, .int .i64 a1_1] 23 (0, 0))) ∧ Aside0 (wc.heap[gb395]? = some (.cells #[.int .i64 a2_0, .int .i64 a2_1] 23 (0, 0))) ∧ Aside0 (wc.heap[gb399]? = some (.cells #[.int .i64 t396, .int .i64 t397] 23 (0, 0))) ∧ Aside0 (wc.heap[gb403]? = some (.cells #[.int .i64 t400, .int .i64 t401] 23 (0, 0))) ∧ Aside0 (wc.heap[gb407]? = some (.cells #[.int .i64 t404, .int .i64 t405] 23 (0, 0))) ∧ Aside0 (wc.heap[gb411]? = some (.cells #[.int .i64 t408, .int .i64 t409] 23 (0, 0))) ∧ Aside0 (Below w.heap.size w wc))
  case first =>
    have H := HC9.out
    clear HC9
    replace H := Option.bind_eq_some_iff.mp H
    obtain ⟨t412, A540, H⟩ := H
    replace H : (if t412 = true then (if (!(t396 == t400) || (!(t397 == t401))) = true then (soffitlaw01_DeciLaws.j0 k a3 t398 true a0_0 a0_1 a1_0 a1_1 a2_0 a2_1 t396 t397) else (if t398 = t402 then (if (!(t404 == t408) || (!(t405 == t409))) = true then (soffitlaw01_DeciLaws.j0 k a3 t398 true a0_0 a0_1 a1_0 a1_1 a2_0 a2_1 t396 t397) else (soffitlaw01_DeciLaws.j0 k a3 t398 (t406 != t410) a0_0 a0_1 a1_0 a1_1 a2_0 a2_1 t396 t397)) else (soffitlaw01_DeciLaws.j0 k a3 t398 true a0_0 a0_1 a1_0 a1_1 a2_0 a2_1 t396 t397))) else (soffitlaw01_DeciLaws.j0 k a3 t398 true a0_0 a0_1 a1_0 a1_1 a2_0 a2_1 t396 t397)) = some r := H
    have A54 := Aside0.mk A540
    clear A540
    by_cases c55 : t412 = true
    · subst c55
      have H1 : (if (!(t396 == t400) || (!(t397 == t401))) = true then (soffitlaw01_DeciLaws.j0 k a3 t398 true a0_0 a0_1 a1_0 a1_1 a2_0 a2_1 t396 t397) else (if t398 = t402 then (if (!(t404 == t408) || (!(t405 == t409))) = true then (soffitlaw01_DeciLaws.j0 k a3 t398 true a0_0 a0_1 a1_0 a1_1 a2_0 a2_1 t396 t397) else (soffitlaw01_DeciLaws.j0 k a3 t398 (t406 != t410) a0_0 a0_1 a1_0 a1_1 a2_0 a2_1 t396 t397)) else (soffitlaw01_DeciLaws.j0 k a3 t398 true a0_0 a0_1 a1_0 a1_1 a2_0 a2_1 t396 t397))) = some r := by rw [if_pos rfl] at H; exact H
      clear H
      have H := H1
      clear H1
      by_cases c56 : (!(t396 == t400) || (!(t397 == t401))) = true
      · rw [if_pos c56] at H
        have c56b0 : (!(t396 == t400) || (!(t397 == t401))) = true := c56
        clear c56
        (first | rw [c56b0] | (simp only [i64_w, i32_w]; rw [c56b0]) | skip)
        have H' := Aside0.mk H
        clear H
        go_wp2_with (first | ((with_reducible refine gate_callee (f := 11) rfl ?_); refine goesL_ (some 52) rfl rfl Tryd.func11 (by kernel_rfl) rfl #[] rfl (by (try simp only [List.map_toArray, List.map_cons, List.map_nil]); first | done | rfl | (simp only [List.length_drop, List.length_take]; rfl)) ?_; (with_reducible refine (soffitlaw01_awake.calls k  true _ ?side1 A54.out).mono ?_); (case side1 => exact tabs_of HT.out (by repeat (first | (with_reducible first | exact HB.out | apply below_alloc | apply pw_below_drewN | apply below_drew1 | refine below_set ?_ GE393.out | refine below_set ?_ GE394.out | refine below_set ?_ GE395.out | refine below_set ?_ GE399.out | refine below_set ?_ GE403.out | refine below_set ?_ GE407.out | refine below_set ?_ GE411.out) | exact HB.out))); rintro e w57 ⟨rfl, hb⟩; refine ⟨_, rfl, ?_⟩; have n0_ := Aside0.mk (blk_below (g := gb393) (o := .cells #[.int .i64 a0_0, .int .i64 a0_1] 23 (0, 0)) (by (with_reducible repeat (first | refine blk_drewN ?_ _ | refine blk_drew ?_ | refine blk_alloc ?_ _)); refine blk_far ?_ NB393_411.out _; (with_reducible repeat (first | refine blk_drewN ?_ _ | refine blk_drew ?_ | refine blk_alloc ?_ _)); refine blk_far ?_ NB393_411.out _; (with_reducible repeat (first | refine blk_drewN ?_ _ | refine blk_drew ?_ | refine blk_alloc ?_ _)); exact BK393.out) hb); have n1_ := Aside0.mk (blk_below (g := gb394) (o := .cells #[.int .i64 a1_0, .int .i64 a1_1] 23 (0, 0)) (by (with_reducible repeat (first | refine blk_drewN ?_ _ | refine blk_drew ?_ | refine blk_alloc ?_ _)); refine blk_far ?_ NB394_411.out _; (with_reducible repeat (first | refine blk_drewN ?_ _ | refine blk_drew ?_ | refine blk_alloc ?_ _)); refine blk_far ?_ NB394_411.out _; (with_reducible repeat (first | refine blk_drewN ?_ _ | refine blk_drew ?_ | refine blk_alloc ?_ _)); exact BK394.out) hb); have n2_ := Aside0.mk (blk_below (g := gb395) (o := .cells #[.int .i64 a2_0, .int .i64 a2_1] 23 (0, 0)) (by (with_reducible repeat (first | refine blk_drewN ?_ _ | refine blk_drew ?_ | refine blk_alloc ?_ _)); refine blk_far ?_ NB395_411.out _; (with_reducible repeat (first | refine blk_drewN ?_ _ | refine blk_drew ?_ | refine blk_alloc ?_ _)); refine blk_far ?_ NB395_411.out _; (with_reducible repeat (first | refine blk_drewN ?_ _ | refine blk_drew ?_ | refine blk_alloc ?_ _)); exact BK395.out) hb); have n3_ := Aside0.mk (blk_below (g := gb399) (o := .cells #[.int .i64 t396, .int .i64 t397] 23 (0, 0)) (by (with_reducible repeat (first | refine blk_drewN ?_ _ | refine blk_drew ?_ | refine blk_alloc ?_ _)); refine blk_far ?_ NB399_411.out _; (with_reducible repeat (first | refine blk_drewN ?_ _ | refine blk_drew ?_ | refine blk_alloc ?_ _)); refine blk_far ?_ NB399_411.out _; (with_reducible repeat (first | refine blk_drewN ?_ _ | refine blk_drew ?_ | refine blk_alloc ?_ _)); exact BK399.out) hb); have n4_ := Aside0.mk (blk_below (g := gb403) (o := .cells #[.int .i64 t400, .int .i64 t401] 23 (0, 0)) (by (with_reducible repeat (first | refine blk_drewN ?_ _ | refine blk_drew ?_ | refine blk_alloc ?_ _)); refine blk_far ?_ NB403_411.out _; (with_reducible repeat (first | refine blk_drewN ?_ _ | refine blk_drew ?_ | refine blk_alloc ?_ _)); refine blk_far ?_ NB403_411.out _; (with_reducible repeat (first | refine blk_drewN ?_ _ | refine blk_drew ?_ | refine blk_alloc ?_ _)); exact BK403.out) hb); have n5_ := Aside0.mk (blk_below (g := gb407) (o := .cells #[.int .i64 t404, .int .i64 t405] 23 (0, 0)) (by (with_reducible repeat (first | refine blk_drewN ?_ _ | refine blk_drew ?_ | refine blk_alloc ?_ _)); refine blk_far ?_ NB407_411.out _; (with_reducible repeat (first | refine blk_drewN ?_ _ | refine blk_drew ?_ | refine blk_alloc ?_ _)); refine blk_far ?_ NB407_411.out _; (with_reducible repeat (first | refine blk_drewN ?_ _ | refine blk_drew ?_ | refine blk_alloc ?_ _)); exact BK407.out) hb); have n6_ := Aside0.mk (blk_below (g := gb411) (o := .cells #[.int .i64 t408, .int .i64 t409] 23 (0, 0)) (by (with_reducible repeat (first | refine blk_drewN ?_ _ | refine blk_drew ?_ | refine blk_alloc ?_ _)); refine blk_put (cs := #[.int .i64 t408, .int .i64 0]) ?_ 1 _ rfl; (with_reducible repeat (first | refine blk_drewN ?_ _ | refine blk_drew ?_ | refine blk_alloc ?_ _)); refine blk_put (cs := #[.int .i64 0, .int .i64 0]) ?_ 0 _ rfl; (with_reducible repeat (first | refine blk_drewN ?_ _ | refine blk_drew ?_ | refine blk_alloc ?_ _)); exact BK411.out) hb); have n7_ := Aside0.mk (below_step (by repeat (first | (with_reducible first | exact HB.out | apply below_alloc | apply pw_below_drewN | apply below_drew1 | refine below_set ?_ GE393.out | refine below_set ?_ GE394.out | refine below_set ?_ GE395.out | refine below_set ?_ GE399.out | refine below_set ?_ GE403.out | refine below_set ?_ GE407.out | refine below_set ?_ GE411.out) | exact HB.out)) hb); clear BK393; clear BK394; clear BK395; clear BK399; clear BK403; clear BK407; clear BK411; clear HB; have BK393 := n0_; have BK394 := n1_; have BK395 := n2_; have BK399 := n3_; have BK403 := n4_; have BK407 := n5_; have BK411 := n6_; have HB := n7_; clear n0_ n1_ n2_ n3_ n4_ n5_ n6_ n7_; (try clear hb); (try clear hb2); (try clear hk); (try clear hi); have hnb58 := NB399_393.out; have hnc58 := NB393_399.out; have hnb59 := NB399_394.out; have hnc59 := NB394_399.out; have hnb60 := NB399_395.out; have hnc60 := NB395_399.out; have hnb61 := NB399_403.out; have hnc61 := NB403_399.out; have hnb62 := NB399_407.out; have hnc62 := NB407_399.out; have hnb63 := NB399_411.out; have hnc63 := NB411_399.out; have hcz64_0 : w57.cell? ⟨gb399, 0, none⟩ = some (.int .i64 t396) := (blk_cell BK399.out 0).trans rfl; have hcz64_1 : w57.cell? ⟨gb399, 1, none⟩ = some (.int .i64 t397) := (blk_cell BK399.out 1).trans rfl; have hfz64_0 := blk_frozen BK399.out 0; have hfz64_1 := blk_frozen BK399.out 1; have hnb65 := NB403_393.out; have hnc65 := NB393_403.out; have hnb66 := NB403_394.out; have hnc66 := NB394_403.out; have hnb67 := NB403_395.out; have hnc67 := NB395_403.out; have hnb68 := NB403_407.out; have hnc68 := NB407_403.out; have hnb69 := NB403_411.out; have hnc69 := NB411_403.out; have hcz70_0 : w57.cell? ⟨gb403, 0, none⟩ = some (.int .i64 t400) := (blk_cell BK403.out 0).trans rfl; have hcz70_1 : w57.cell? ⟨gb403, 1, none⟩ = some (.int .i64 t401) := (blk_cell BK403.out 1).trans rfl; have hfz70_0 := blk_frozen BK403.out 0; have hfz70_1 := blk_frozen BK403.out 1))
        go_meet
        case rel => exact ⟨_, (true), (by first | rfl | (simp; done) | (simp [*]; done)), H', ⟨by first | omega | exact Nat.le_refl _⟩, ⟨by (with_reducible repeat (first | refine blk_drewN ?_ _ | refine blk_drew ?_ | refine blk_alloc ?_ _)); exact BK393.out⟩, ⟨by (with_reducible repeat (first | refine blk_drewN ?_ _ | refine blk_drew ?_ | refine blk_alloc ?_ _)); exact BK394.out⟩, ⟨by (with_reducible repeat (first | refine blk_drewN ?_ _ | refine blk_drew ?_ | refine blk_alloc ?_ _)); exact BK395.out⟩, ⟨by (with_reducible repeat (first | refine blk_drewN ?_ _ | refine blk_drew ?_ | refine blk_alloc ?_ _)); exact BK399.out⟩, ⟨by (with_reducible repeat (first | refine blk_drewN ?_ _ | refine blk_drew ?_ | refine blk_alloc ?_ _)); exact BK403.out⟩, ⟨by (with_reducible repeat (first | refine blk_drewN ?_ _ | refine blk_drew ?_ | refine blk_alloc ?_ _)); exact BK407.out⟩, ⟨by (with_reducible repeat (first | refine blk_drewN ?_ _ | refine blk_drew ?_ | refine blk_alloc ?_ _)); exact BK411.out⟩, ⟨by repeat (first | (with_reducible first | exact HB.out | apply below_alloc | apply pw_below_drewN | apply below_drew1 | refine below_set ?_ GE393.out | refine below_set ?_ GE394.out | refine below_set ?_ GE395.out | refine below_set ?_ GE399.out | refine below_set ?_ GE403.out | refine below_set ?_ GE407.out | refine below_set ?_ GE411.out) | exact HB.out)⟩⟩
      · rw [if_neg c56] at H
        have c56b0 : (!(t396 == t400) || (!(t397 == t401))) = false := by simpa using c56
        clear c56
        (first | rw [c56b0] | (simp only [i64_w, i32_w]; rw [c56b0]) | skip)
        by_cases c71 : t398 = t402
        · rw [if_pos c71] at H
          have c71b0 : (t398 == t402) = true := beq_iff_eq.mpr c71
          have c71b1 : (t398 != t402) = false := bne_eq_false_iff_eq.mpr c71
          clear c71
          by_cases c72 : (!(t404 == t408) || (!(t405 == t409))) = true
          · rw [if_pos c72] at H
            have c72b0 : (!(t404 == t408) || (!(t405 == t409))) = true := c72
            clear c72
            have H' := Aside0.mk H
            clear H
            go_wp2_with (first | ((with_reducible refine gate_callee (f := 11) rfl ?_); refine goesL_ (some 52) rfl rfl Tryd.func11 (by kernel_rfl) rfl #[] rfl (by (try simp only [List.map_toArray, List.map_cons, List.map_nil]); first | done | rfl | (simp only [List.length_drop, List.length_take]; rfl)) ?_; (with_reducible refine (soffitlaw01_awake.calls k  true _ ?side1 A54.out).mono ?_); (case side1 => exact tabs_of HT.out (by repeat (first | (with_reducible first | exact HB.out | apply below_alloc | apply pw_below_drewN | apply below_drew1 | refine below_set ?_ GE393.out | refine below_set ?_ GE394.out | refine below_set ?_ GE395.out | refine below_set ?_ GE399.out | refine below_set ?_ GE403.out | refine below_set ?_ GE407.out | refine below_set ?_ GE411.out) | exact HB.out))); rintro e w73 ⟨rfl, hb⟩; refine ⟨_, rfl, ?_⟩; have n0_ := Aside0.mk (blk_below (g := gb393) (o := .cells #[.int .i64 a0_0, .int .i64 a0_1] 23 (0, 0)) (by (with_reducible repeat (first | refine blk_drewN ?_ _ | refine blk_drew ?_ | refine blk_alloc ?_ _)); refine blk_far ?_ NB393_411.out _; (with_reducible repeat (first | refine blk_drewN ?_ _ | refine blk_drew ?_ | refine blk_alloc ?_ _)); refine blk_far ?_ NB393_411.out _; (with_reducible repeat (first | refine blk_drewN ?_ _ | refine blk_drew ?_ | refine blk_alloc ?_ _)); exact BK393.out) hb); have n1_ := Aside0.mk (blk_below (g := gb394) (o := .cells #[.int .i64 a1_0, .int .i64 a1_1] 23 (0, 0)) (by (with_reducible repeat (first | refine blk_drewN ?_ _ | refine blk_drew ?_ | refine blk_alloc ?_ _)); refine blk_far ?_ NB394_411.out _; (with_reducible repeat (first | refine blk_drewN ?_ _ | refine blk_drew ?_ | refine blk_alloc ?_ _)); refine blk_far ?_ NB394_411.out _; (with_reducible repeat (first | refine blk_drewN ?_ _ | refine blk_drew ?_ | refine blk_alloc ?_ _)); exact BK394.out) hb); have n2_ := Aside0.mk (blk_below (g := gb395) (o := .cells #[.int .i64 a2_0, .int .i64 a2_1] 23 (0, 0)) (by (with_reducible repeat (first | refine blk_drewN ?_ _ | refine blk_drew ?_ | refine blk_alloc ?_ _)); refine blk_far ?_ NB395_411.out _; (with_reducible repeat (first | refine blk_drewN ?_ _ | refine blk_drew ?_ | refine blk_alloc ?_ _)); refine blk_far ?_ NB395_411.out _; (with_reducible repeat (first | refine blk_drewN ?_ _ | refine blk_drew ?_ | refine blk_alloc ?_ _)); exact BK395.out) hb); have n3_ := Aside0.mk (blk_below (g := gb399) (o := .cells #[.int .i64 t396, .int .i64 t397] 23 (0, 0)) (by (with_reducible repeat (first | refine blk_drewN ?_ _ | refine blk_drew ?_ | refine blk_alloc ?_ _)); refine blk_far ?_ NB399_411.out _; (with_reducible repeat (first | refine blk_drewN ?_ _ | refine blk_drew ?_ | refine blk_alloc ?_ _)); refine blk_far ?_ NB399_411.out _; (with_reducible repeat (first | refine blk_drewN ?_ _ | refine blk_drew ?_ | refine blk_alloc ?_ _)); exact BK399.out) hb); have n4_ := Aside0.mk (blk_below (g := gb403) (o := .cells #[.int .i64 t400, .int .i64 t401] 23 (0, 0)) (by (with_reducible repeat (first | refine blk_drewN ?_ _ | refine blk_drew ?_ | refine blk_alloc ?_ _)); refine blk_far ?_ NB403_411.out _; (with_reducible repeat (first | refine blk_drewN ?_ _ | refine blk_drew ?_ | refine blk_alloc ?_ _)); refine blk_far ?_ NB403_411.out _; (with_reducible repeat (first | refine blk_drewN ?_ _ | refine blk_drew ?_ | refine blk_alloc ?_ _)); exact BK403.out) hb); have n5_ := Aside0.mk (blk_below (g := gb407) (o := .cells #[.int .i64 t404, .int .i64 t405] 23 (0, 0)) (by (with_reducible repeat (first | refine blk_drewN ?_ _ | refine blk_drew ?_ | refine blk_alloc ?_ _)); refine blk_far ?_ NB407_411.out _; (with_reducible repeat (first | refine blk_drewN ?_ _ | refine blk_drew ?_ | refine blk_alloc ?_ _)); refine blk_far ?_ NB407_411.out _; (with_reducible repeat (first | refine blk_drewN ?_ _ | refine blk_drew ?_ | refine blk_alloc ?_ _)); exact BK407.out) hb); have n6_ := Aside0.mk (blk_below (g := gb411) (o := .cells #[.int .i64 t408, .int .i64 t409] 23 (0, 0)) (by (with_reducible repeat (first | refine blk_drewN ?_ _ | refine blk_drew ?_ | refine blk_alloc ?_ _)); refine blk_put (cs := #[.int .i64 t408, .int .i64 0]) ?_ 1 _ rfl; (with_reducible repeat (first | refine blk_drewN ?_ _ | refine blk_drew ?_ | refine blk_alloc ?_ _)); refine blk_put (cs := #[.int .i64 0, .int .i64 0]) ?_ 0 _ rfl; (with_reducible repeat (first | refine blk_drewN ?_ _ | refine blk_drew ?_ | refine blk_alloc ?_ _)); exact BK411.out) hb); have n7_ := Aside0.mk (below_step (by repeat (first | (with_reducible first | exact HB.out | apply below_alloc | apply pw_below_drewN | apply below_drew1 | refine below_set ?_ GE393.out | refine below_set ?_ GE394.out | refine below_set ?_ GE395.out | refine below_set ?_ GE399.out | refine below_set ?_ GE403.out | refine below_set ?_ GE407.out | refine below_set ?_ GE411.out) | exact HB.out)) hb); clear BK393; clear BK394; clear BK395; clear BK399; clear BK403; clear BK407; clear BK411; clear HB; have BK393 := n0_; have BK394 := n1_; have BK395 := n2_; have BK399 := n3_; have BK403 := n4_; have BK407 := n5_; have BK411 := n6_; have HB := n7_; clear n0_ n1_ n2_ n3_ n4_ n5_ n6_ n7_; (try clear hb); (try clear hb2); (try clear hk); (try clear hi); have hnb74 := NB399_393.out; have hnc74 := NB393_399.out; have hnb75 := NB399_394.out; have hnc75 := NB394_399.out; have hnb76 := NB399_395.out; have hnc76 := NB395_399.out; have hnb77 := NB399_403.out; have hnc77 := NB403_399.out; have hnb78 := NB399_407.out; have hnc78 := NB407_399.out; have hnb79 := NB399_411.out; have hnc79 := NB411_399.out; have hcz80_0 : w73.cell? ⟨gb399, 0, none⟩ = some (.int .i64 t396) := (blk_cell BK399.out 0).trans rfl; have hcz80_1 : w73.cell? ⟨gb399, 1, none⟩ = some (.int .i64 t397) := (blk_cell BK399.out 1).trans rfl; have hfz80_0 := blk_frozen BK399.out 0; have hfz80_1 := blk_frozen BK399.out 1; have hnb81 := NB403_393.out; have hnc81 := NB393_403.out; have hnb82 := NB403_394.out; have hnc82 := NB394_403.out; have hnb83 := NB403_395.out; have hnc83 := NB395_403.out; have hnb84 := NB403_407.out; have hnc84 := NB407_403.out; have hnb85 := NB403_411.out; have hnc85 := NB411_403.out; have hcz86_0 : w73.cell? ⟨gb403, 0, none⟩ = some (.int .i64 t400) := (blk_cell BK403.out 0).trans rfl; have hcz86_1 : w73.cell? ⟨gb403, 1, none⟩ = some (.int .i64 t401) := (blk_cell BK403.out 1).trans rfl; have hfz86_0 := blk_frozen BK403.out 0; have hfz86_1 := blk_frozen BK403.out 1; have hnb87 := NB407_393.out; have hnc87 := NB393_407.out; have hnb88 := NB407_394.out; have hnc88 := NB394_407.out; have hnb89 := NB407_395.out; have hnc89 := NB395_407.out; have hnb90 := NB407_411.out; have hnc90 := NB411_407.out; have hcz91_0 : w73.cell? ⟨gb407, 0, none⟩ = some (.int .i64 t404) := (blk_cell BK407.out 0).trans rfl; have hcz91_1 : w73.cell? ⟨gb407, 1, none⟩ = some (.int .i64 t405) := (blk_cell BK407.out 1).trans rfl; have hfz91_0 := blk_frozen BK407.out 0; have hfz91_1 := blk_frozen BK407.out 1; have hnb92 := NB411_393.out; have hnc92 := NB393_411.out; have hnb93 := NB411_394.out; have hnc93 := NB394_411.out; have hnb94 := NB411_395.out; have hnc94 := NB395_411.out; have hcz95_0 : w73.cell? ⟨gb411, 0, none⟩ = some (.int .i64 t408) := (blk_cell BK411.out 0).trans rfl; have hcz95_1 : w73.cell? ⟨gb411, 1, none⟩ = some (.int .i64 t409) := (blk_cell BK411.out 1).trans rfl; have hfz95_0 := blk_frozen BK411.out 0; have hfz95_1 := blk_frozen BK411.out 1))
            go_meet
            case rel => exact ⟨_, (true), (by first | rfl | (simp; done) | (simp [*]; done)), H', ⟨by first | omega | exact Nat.le_refl _⟩, ⟨by (with_reducible repeat (first | refine blk_drewN ?_ _ | refine blk_drew ?_ | refine blk_alloc ?_ _)); exact BK393.out⟩, ⟨by (with_reducible repeat (first | refine blk_drewN ?_ _ | refine blk_drew ?_ | refine blk_alloc ?_ _)); exact BK394.out⟩, ⟨by (with_reducible repeat (first | refine blk_drewN ?_ _ | refine blk_drew ?_ | refine blk_alloc ?_ _)); exact BK395.out⟩, ⟨by (with_reducible repeat (first | refine blk_drewN ?_ _ | refine blk_drew ?_ | refine blk_alloc ?_ _)); exact BK399.out⟩, ⟨by (with_reducible repeat (first | refine blk_drewN ?_ _ | refine blk_drew ?_ | refine blk_alloc ?_ _)); exact BK403.out⟩, ⟨by (with_reducible repeat (first | refine blk_drewN ?_ _ | refine blk_drew ?_ | refine blk_alloc ?_ _)); exact BK407.out⟩, ⟨by (with_reducible repeat (first | refine blk_drewN ?_ _ | refine blk_drew ?_ | refine blk_alloc ?_ _)); exact BK411.out⟩, ⟨by repeat (first | (with_reducible first | exact HB.out | apply below_alloc | apply pw_below_drewN | apply below_drew1 | refine below_set ?_ GE393.out | refine below_set ?_ GE394.out | refine below_set ?_ GE395.out | refine below_set ?_ GE399.out | refine below_set ?_ GE403.out | refine below_set ?_ GE407.out | refine below_set ?_ GE411.out) | exact HB.out)⟩⟩
          · rw [if_neg c72] at H
            have c72b0 : (!(t404 == t408) || (!(t405 == t409))) = false := by simpa using c72
            clear c72
            have H' := Aside0.mk H
            clear H
            go_wp2_with (first | ((with_reducible refine gate_callee (f := 11) rfl ?_); refine goesL_ (some 52) rfl rfl Tryd.func11 (by kernel_rfl) rfl #[] rfl (by (try simp only [List.map_toArray, List.map_cons, List.map_nil]); first | done | rfl | (simp only [List.length_drop, List.length_take]; rfl)) ?_; (with_reducible refine (soffitlaw01_awake.calls k  true _ ?side1 A54.out).mono ?_); (case side1 => exact tabs_of HT.out (by repeat (first | (with_reducible first | exact HB.out | apply below_alloc | apply pw_below_drewN | apply below_drew1 | refine below_set ?_ GE393.out | refine below_set ?_ GE394.out | refine below_set ?_ GE395.out | refine below_set ?_ GE399.out | refine below_set ?_ GE403.out | refine below_set ?_ GE407.out | refine below_set ?_ GE411.out) | exact HB.out))); rintro e w96 ⟨rfl, hb⟩; refine ⟨_, rfl, ?_⟩; have n0_ := Aside0.mk (blk_below (g := gb393) (o := .cells #[.int .i64 a0_0, .int .i64 a0_1] 23 (0, 0)) (by (with_reducible repeat (first | refine blk_drewN ?_ _ | refine blk_drew ?_ | refine blk_alloc ?_ _)); refine blk_far ?_ NB393_411.out _; (with_reducible repeat (first | refine blk_drewN ?_ _ | refine blk_drew ?_ | refine blk_alloc ?_ _)); refine blk_far ?_ NB393_411.out _; (with_reducible repeat (first | refine blk_drewN ?_ _ | refine blk_drew ?_ | refine blk_alloc ?_ _)); exact BK393.out) hb); have n1_ := Aside0.mk (blk_below (g := gb394) (o := .cells #[.int .i64 a1_0, .int .i64 a1_1] 23 (0, 0)) (by (with_reducible repeat (first | refine blk_drewN ?_ _ | refine blk_drew ?_ | refine blk_alloc ?_ _)); refine blk_far ?_ NB394_411.out _; (with_reducible repeat (first | refine blk_drewN ?_ _ | refine blk_drew ?_ | refine blk_alloc ?_ _)); refine blk_far ?_ NB394_411.out _; (with_reducible repeat (first | refine blk_drewN ?_ _ | refine blk_drew ?_ | refine blk_alloc ?_ _)); exact BK394.out) hb); have n2_ := Aside0.mk (blk_below (g := gb395) (o := .cells #[.int .i64 a2_0, .int .i64 a2_1] 23 (0, 0)) (by (with_reducible repeat (first | refine blk_drewN ?_ _ | refine blk_drew ?_ | refine blk_alloc ?_ _)); refine blk_far ?_ NB395_411.out _; (with_reducible repeat (first | refine blk_drewN ?_ _ | refine blk_drew ?_ | refine blk_alloc ?_ _)); refine blk_far ?_ NB395_411.out _; (with_reducible repeat (first | refine blk_drewN ?_ _ | refine blk_drew ?_ | refine blk_alloc ?_ _)); exact BK395.out) hb); have n3_ := Aside0.mk (blk_below (g := gb399) (o := .cells #[.int .i64 t396, .int .i64 t397] 23 (0, 0)) (by (with_reducible repeat (first | refine blk_drewN ?_ _ | refine blk_drew ?_ | refine blk_alloc ?_ _)); refine blk_far ?_ NB399_411.out _; (with_reducible repeat (first | refine blk_drewN ?_ _ | refine blk_drew ?_ | refine blk_alloc ?_ _)); refine blk_far ?_ NB399_411.out _; (with_reducible repeat (first | refine blk_drewN ?_ _ | refine blk_drew ?_ | refine blk_alloc ?_ _)); exact BK399.out) hb); have n4_ := Aside0.mk (blk_below (g := gb403) (o := .cells #[.int .i64 t400, .int .i64 t401] 23 (0, 0)) (by (with_reducible repeat (first | refine blk_drewN ?_ _ | refine blk_drew ?_ | refine blk_alloc ?_ _)); refine blk_far ?_ NB403_411.out _; (with_reducible repeat (first | refine blk_drewN ?_ _ | refine blk_drew ?_ | refine blk_alloc ?_ _)); refine blk_far ?_ NB403_411.out _; (with_reducible repeat (first | refine blk_drewN ?_ _ | refine blk_drew ?_ | refine blk_alloc ?_ _)); exact BK403.out) hb); have n5_ := Aside0.mk (blk_below (g := gb407) (o := .cells #[.int .i64 t404, .int .i64 t405] 23 (0, 0)) (by (with_reducible repeat (first | refine blk_drewN ?_ _ | refine blk_drew ?_ | refine blk_alloc ?_ _)); refine blk_far ?_ NB407_411.out _; (with_reducible repeat (first | refine blk_drewN ?_ _ | refine blk_drew ?_ | refine blk_alloc ?_ _)); refine blk_far ?_ NB407_411.out _; (with_reducible repeat (first | refine blk_drewN ?_ _ | refine blk_drew ?_ | refine blk_alloc ?_ _)); exact BK407.out) hb); have n6_ := Aside0.mk (blk_below (g := gb411) (o := .cells #[.int .i64 t408, .int .i64 t409] 23 (0, 0)) (by (with_reducible repeat (first | refine blk_drewN ?_ _ | refine blk_drew ?_ | refine blk_alloc ?_ _)); refine blk_put (cs := #[.int .i64 t408, .int .i64 0]) ?_ 1 _ rfl; (with_reducible repeat (first | refine blk_drewN ?_ _ | refine blk_drew ?_ | refine blk_alloc ?_ _)); refine blk_put (cs := #[.int .i64 0, .int .i64 0]) ?_ 0 _ rfl; (with_reducible repeat (first | refine blk_drewN ?_ _ | refine blk_drew ?_ | refine blk_alloc ?_ _)); exact BK411.out) hb); have n7_ := Aside0.mk (below_step (by repeat (first | (with_reducible first | exact HB.out | apply below_alloc | apply pw_below_drewN | apply below_drew1 | refine below_set ?_ GE393.out | refine below_set ?_ GE394.out | refine below_set ?_ GE395.out | refine below_set ?_ GE399.out | refine below_set ?_ GE403.out | refine below_set ?_ GE407.out | refine below_set ?_ GE411.out) | exact HB.out)) hb); clear BK393; clear BK394; clear BK395; clear BK399; clear BK403; clear BK407; clear BK411; clear HB; have BK393 := n0_; have BK394 := n1_; have BK395 := n2_; have BK399 := n3_; have BK403 := n4_; have BK407 := n5_; have BK411 := n6_; have HB := n7_; clear n0_ n1_ n2_ n3_ n4_ n5_ n6_ n7_; (try clear hb); (try clear hb2); (try clear hk); (try clear hi); have hnb97 := NB399_393.out; have hnc97 := NB393_399.out; have hnb98 := NB399_394.out; have hnc98 := NB394_399.out; have hnb99 := NB399_395.out; have hnc99 := NB395_399.out; have hnb100 := NB399_403.out; have hnc100 := NB403_399.out; have hnb101 := NB399_407.out; have hnc101 := NB407_399.out; have hnb102 := NB399_411.out; have hnc102 := NB411_399.out; have hcz103_0 : w96.cell? ⟨gb399, 0, none⟩ = some (.int .i64 t396) := (blk_cell BK399.out 0).trans rfl; have hcz103_1 : w96.cell? ⟨gb399, 1, none⟩ = some (.int .i64 t397) := (blk_cell BK399.out 1).trans rfl; have hfz103_0 := blk_frozen BK399.out 0; have hfz103_1 := blk_frozen BK399.out 1; have hnb104 := NB403_393.out; have hnc104 := NB393_403.out; have hnb105 := NB403_394.out; have hnc105 := NB394_403.out; have hnb106 := NB403_395.out; have hnc106 := NB395_403.out; have hnb107 := NB403_407.out; have hnc107 := NB407_403.out; have hnb108 := NB403_411.out; have hnc108 := NB411_403.out; have hcz109_0 : w96.cell? ⟨gb403, 0, none⟩ = some (.int .i64 t400) := (blk_cell BK403.out 0).trans rfl; have hcz109_1 : w96.cell? ⟨gb403, 1, none⟩ = some (.int .i64 t401) := (blk_cell BK403.out 1).trans rfl; have hfz109_0 := blk_frozen BK403.out 0; have hfz109_1 := blk_frozen BK403.out 1; have hnb110 := NB407_393.out; have hnc110 := NB393_407.out; have hnb111 := NB407_394.out; have hnc111 := NB394_407.out; have hnb112 := NB407_395.out; have hnc112 := NB395_407.out; have hnb113 := NB407_411.out; have hnc113 := NB411_407.out; have hcz114_0 : w96.cell? ⟨gb407, 0, none⟩ = some (.int .i64 t404) := (blk_cell BK407.out 0).trans rfl; have hcz114_1 : w96.cell? ⟨gb407, 1, none⟩ = some (.int .i64 t405) := (blk_cell BK407.out 1).trans rfl; have hfz114_0 := blk_frozen BK407.out 0; have hfz114_1 := blk_frozen BK407.out 1; have hnb115 := NB411_393.out; have hnc115 := NB393_411.out; have hnb116 := NB411_394.out; have hnc116 := NB394_411.out; have hnb117 := NB411_395.out; have hnc117 := NB395_411.out; have hcz118_0 : w96.cell? ⟨gb411, 0, none⟩ = some (.int .i64 t408) := (blk_cell BK411.out 0).trans rfl; have hcz118_1 : w96.cell? ⟨gb411, 1, none⟩ = some (.int .i64 t409) := (blk_cell BK411.out 1).trans rfl; have hfz118_0 := blk_frozen BK411.out 0; have hfz118_1 := blk_frozen BK411.out 1))
            go_meet
            case rel => exact ⟨_, ((t406 != t410)), (by first | rfl | (simp; done) | (simp [*]; done)), H', ⟨by first | omega | exact Nat.le_refl _⟩, ⟨by (with_reducible repeat (first | refine blk_drewN ?_ _ | refine blk_drew ?_ | refine blk_alloc ?_ _)); exact BK393.out⟩, ⟨by (with_reducible repeat (first | refine blk_drewN ?_ _ | refine blk_drew ?_ | refine blk_alloc ?_ _)); exact BK394.out⟩, ⟨by (with_reducible repeat (first | refine blk_drewN ?_ _ | refine blk_drew ?_ | refine blk_alloc ?_ _)); exact BK395.out⟩, ⟨by (with_reducible repeat (first | refine blk_drewN ?_ _ | refine blk_drew ?_ | refine blk_alloc ?_ _)); exact BK399.out⟩, ⟨by (with_reducible repeat (first | refine blk_drewN ?_ _ | refine blk_drew ?_ | refine blk_alloc ?_ _)); exact BK403.out⟩, ⟨by (with_reducible repeat (first | refine blk_drewN ?_ _ | refine blk_drew ?_ | refine blk_alloc ?_ _)); exact BK407.out⟩, ⟨by (with_reducible repeat (first | refine blk_drewN ?_ _ | refine blk_drew ?_ | refine blk_alloc ?_ _)); exact BK411.out⟩, ⟨by repeat (first | (with_reducible first | exact HB.out | apply below_alloc | apply pw_below_drewN | apply below_drew1 | refine below_set ?_ GE393.out | refine below_set ?_ GE394.out | refine below_set ?_ GE395.out | refine below_set ?_ GE399.out | refine below_set ?_ GE403.out | refine below_set ?_ GE407.out | refine below_set ?_ GE411.out) | exact HB.out)⟩⟩
        · rw [if_neg c71] at H
          have c71b0 : (t398 == t402) = false := beq_eq_false_iff_ne.mpr c71
          have c71b1 : (t398 != t402) = true := bne_iff_ne.mpr c71
          have H' := Aside0.mk H
          clear H
          go_wp2_with (first | ((with_reducible refine gate_callee (f := 11) rfl ?_); refine goesL_ (some 52) rfl rfl Tryd.func11 (by kernel_rfl) rfl #[] rfl (by (try simp only [List.map_toArray, List.map_cons, List.map_nil]); first | done | rfl | (simp only [List.length_drop, List.length_take]; rfl)) ?_; (with_reducible refine (soffitlaw01_awake.calls k  true _ ?side1 A54.out).mono ?_); (case side1 => exact tabs_of HT.out (by repeat (first | (with_reducible first | exact HB.out | apply below_alloc | apply pw_below_drewN | apply below_drew1 | refine below_set ?_ GE393.out | refine below_set ?_ GE394.out | refine below_set ?_ GE395.out | refine below_set ?_ GE399.out | refine below_set ?_ GE403.out | refine below_set ?_ GE407.out | refine below_set ?_ GE411.out) | exact HB.out))); rintro e w119 ⟨rfl, hb⟩; refine ⟨_, rfl, ?_⟩; have n0_ := Aside0.mk (blk_below (g := gb393) (o := .cells #[.int .i64 a0_0, .int .i64 a0_1] 23 (0, 0)) (by (with_reducible repeat (first | refine blk_drewN ?_ _ | refine blk_drew ?_ | refine blk_alloc ?_ _)); refine blk_far ?_ NB393_411.out _; (with_reducible repeat (first | refine blk_drewN ?_ _ | refine blk_drew ?_ | refine blk_alloc ?_ _)); refine blk_far ?_ NB393_411.out _; (with_reducible repeat (first | refine blk_drewN ?_ _ | refine blk_drew ?_ | refine blk_alloc ?_ _)); exact BK393.out) hb); have n1_ := Aside0.mk (blk_below (g := gb394) (o := .cells #[.int .i64 a1_0, .int .i64 a1_1] 23 (0, 0)) (by (with_reducible repeat (first | refine blk_drewN ?_ _ | refine blk_drew ?_ | refine blk_alloc ?_ _)); refine blk_far ?_ NB394_411.out _; (with_reducible repeat (first | refine blk_drewN ?_ _ | refine blk_drew ?_ | refine blk_alloc ?_ _)); refine blk_far ?_ NB394_411.out _; (with_reducible repeat (first | refine blk_drewN ?_ _ | refine blk_drew ?_ | refine blk_alloc ?_ _)); exact BK394.out) hb); have n2_ := Aside0.mk (blk_below (g := gb395) (o := .cells #[.int .i64 a2_0, .int .i64 a2_1] 23 (0, 0)) (by (with_reducible repeat (first | refine blk_drewN ?_ _ | refine blk_drew ?_ | refine blk_alloc ?_ _)); refine blk_far ?_ NB395_411.out _; (with_reducible repeat (first | refine blk_drewN ?_ _ | refine blk_drew ?_ | refine blk_alloc ?_ _)); refine blk_far ?_ NB395_411.out _; (with_reducible repeat (first | refine blk_drewN ?_ _ | refine blk_drew ?_ | refine blk_alloc ?_ _)); exact BK395.out) hb); have n3_ := Aside0.mk (blk_below (g := gb399) (o := .cells #[.int .i64 t396, .int .i64 t397] 23 (0, 0)) (by (with_reducible repeat (first | refine blk_drewN ?_ _ | refine blk_drew ?_ | refine blk_alloc ?_ _)); refine blk_far ?_ NB399_411.out _; (with_reducible repeat (first | refine blk_drewN ?_ _ | refine blk_drew ?_ | refine blk_alloc ?_ _)); refine blk_far ?_ NB399_411.out _; (with_reducible repeat (first | refine blk_drewN ?_ _ | refine blk_drew ?_ | refine blk_alloc ?_ _)); exact BK399.out) hb); have n4_ := Aside0.mk (blk_below (g := gb403) (o := .cells #[.int .i64 t400, .int .i64 t401] 23 (0, 0)) (by (with_reducible repeat (first | refine blk_drewN ?_ _ | refine blk_drew ?_ | refine blk_alloc ?_ _)); refine blk_far ?_ NB403_411.out _; (with_reducible repeat (first | refine blk_drewN ?_ _ | refine blk_drew ?_ | refine blk_alloc ?_ _)); refine blk_far ?_ NB403_411.out _; (with_reducible repeat (first | refine blk_drewN ?_ _ | refine blk_drew ?_ | refine blk_alloc ?_ _)); exact BK403.out) hb); have n5_ := Aside0.mk (blk_below (g := gb407) (o := .cells #[.int .i64 t404, .int .i64 t405] 23 (0, 0)) (by (with_reducible repeat (first | refine blk_drewN ?_ _ | refine blk_drew ?_ | refine blk_alloc ?_ _)); refine blk_far ?_ NB407_411.out _; (with_reducible repeat (first | refine blk_drewN ?_ _ | refine blk_drew ?_ | refine blk_alloc ?_ _)); refine blk_far ?_ NB407_411.out _; (with_reducible repeat (first | refine blk_drewN ?_ _ | refine blk_drew ?_ | refine blk_alloc ?_ _)); exact BK407.out) hb); have n6_ := Aside0.mk (blk_below (g := gb411) (o := .cells #[.int .i64 t408, .int .i64 t409] 23 (0, 0)) (by (with_reducible repeat (first | refine blk_drewN ?_ _ | refine blk_drew ?_ | refine blk_alloc ?_ _)); refine blk_put (cs := #[.int .i64 t408, .int .i64 0]) ?_ 1 _ rfl; (with_reducible repeat (first | refine blk_drewN ?_ _ | refine blk_drew ?_ | refine blk_alloc ?_ _)); refine blk_put (cs := #[.int .i64 0, .int .i64 0]) ?_ 0 _ rfl; (with_reducible repeat (first | refine blk_drewN ?_ _ | refine blk_drew ?_ | refine blk_alloc ?_ _)); exact BK411.out) hb); have n7_ := Aside0.mk (below_step (by repeat (first | (with_reducible first | exact HB.out | apply below_alloc | apply pw_below_drewN | apply below_drew1 | refine below_set ?_ GE393.out | refine below_set ?_ GE394.out | refine below_set ?_ GE395.out | refine below_set ?_ GE399.out | refine below_set ?_ GE403.out | refine below_set ?_ GE407.out | refine below_set ?_ GE411.out) | exact HB.out)) hb); clear BK393; clear BK394; clear BK395; clear BK399; clear BK403; clear BK407; clear BK411; clear HB; have BK393 := n0_; have BK394 := n1_; have BK395 := n2_; have BK399 := n3_; have BK403 := n4_; have BK407 := n5_; have BK411 := n6_; have HB := n7_; clear n0_ n1_ n2_ n3_ n4_ n5_ n6_ n7_; (try clear hb); (try clear hb2); (try clear hk); (try clear hi); have hnb120 := NB399_393.out; have hnc120 := NB393_399.out; have hnb121 := NB399_394.out; have hnc121 := NB394_399.out; have hnb122 := NB399_395.out; have hnc122 := NB395_399.out; have hnb123 := NB399_403.out; have hnc123 := NB403_399.out; have hnb124 := NB399_407.out; have hnc124 := NB407_399.out; have hnb125 := NB399_411.out; have hnc125 := NB411_399.out; have hcz126_0 : w119.cell? ⟨gb399, 0, none⟩ = some (.int .i64 t396) := (blk_cell BK399.out 0).trans rfl; have hcz126_1 : w119.cell? ⟨gb399, 1, none⟩ = some (.int .i64 t397) := (blk_cell BK399.out 1).trans rfl; have hfz126_0 := blk_frozen BK399.out 0; have hfz126_1 := blk_frozen BK399.out 1; have hnb127 := NB403_393.out; have hnc127 := NB393_403.out; have hnb128 := NB403_394.out; have hnc128 := NB394_403.out; have hnb129 := NB403_395.out; have hnc129 := NB395_403.out; have hnb130 := NB403_407.out; have hnc130 := NB407_403.out; have hnb131 := NB403_411.out; have hnc131 := NB411_403.out; have hcz132_0 : w119.cell? ⟨gb403, 0, none⟩ = some (.int .i64 t400) := (blk_cell BK403.out 0).trans rfl; have hcz132_1 : w119.cell? ⟨gb403, 1, none⟩ = some (.int .i64 t401) := (blk_cell BK403.out 1).trans rfl; have hfz132_0 := blk_frozen BK403.out 0; have hfz132_1 := blk_frozen BK403.out 1))
          go_meet
          case rel => exact ⟨_, (true), (by first | rfl | (simp; done) | (simp [*]; done)), H', ⟨by first | omega | exact Nat.le_refl _⟩, ⟨by (with_reducible repeat (first | refine blk_drewN ?_ _ | refine blk_drew ?_ | refine blk_alloc ?_ _)); exact BK393.out⟩, ⟨by (with_reducible repeat (first | refine blk_drewN ?_ _ | refine blk_drew ?_ | refine blk_alloc ?_ _)); exact BK394.out⟩, ⟨by (with_reducible repeat (first | refine blk_drewN ?_ _ | refine blk_drew ?_ | refine blk_alloc ?_ _)); exact BK395.out⟩, ⟨by (with_reducible repeat (first | refine blk_drewN ?_ _ | refine blk_drew ?_ | refine blk_alloc ?_ _)); exact BK399.out⟩, ⟨by (with_reducible repeat (first | refine blk_drewN ?_ _ | refine blk_drew ?_ | refine blk_alloc ?_ _)); exact BK403.out⟩, ⟨by (with_reducible repeat (first | refine blk_drewN ?_ _ | refine blk_drew ?_ | refine blk_alloc ?_ _)); exact BK407.out⟩, ⟨by (with_reducible repeat (first | refine blk_drewN ?_ _ | refine blk_drew ?_ | refine blk_alloc ?_ _)); exact BK411.out⟩, ⟨by repeat (first | (with_reducible first | exact HB.out | apply below_alloc | apply pw_below_drewN | apply below_drew1 | refine below_set ?_ GE393.out | refine below_set ?_ GE394.out | refine below_set ?_ GE395.out | refine below_set ?_ GE399.out | refine below_set ?_ GE403.out | refine below_set ?_ GE407.out | refine below_set ?_ GE411.out) | exact HB.out)⟩⟩
    · replace c55 := Bool.eq_false_iff.mpr c55
      subst c55
      have H1 : (soffitlaw01_DeciLaws.j0 k a3 t398 true a0_0 a0_1 a1_0 a1_1 a2_0 a2_1 t396 t397) = some r := by rw [if_neg (show ¬ (false = true) by decide)] at H; exact H
      clear H
      have H := H1
      clear H1
      have H' := Aside0.mk H
      clear H
      go_wp2_with (first | ((with_reducible refine gate_callee (f := 11) rfl ?_); refine goesL_ (some 52) rfl rfl Tryd.func11 (by kernel_rfl) rfl #[] rfl (by (try simp only [List.map_toArray, List.map_cons, List.map_nil]); first | done | rfl | (simp only [List.length_drop, List.length_take]; rfl)) ?_; (with_reducible refine (soffitlaw01_awake.calls k  false _ ?side1 A54.out).mono ?_); (case side1 => exact tabs_of HT.out (by repeat (first | (with_reducible first | exact HB.out | apply below_alloc | apply pw_below_drewN | apply below_drew1 | refine below_set ?_ GE393.out | refine below_set ?_ GE394.out | refine below_set ?_ GE395.out | refine below_set ?_ GE399.out | refine below_set ?_ GE403.out | refine below_set ?_ GE407.out | refine below_set ?_ GE411.out) | exact HB.out))); rintro e w133 ⟨rfl, hb⟩; refine ⟨_, rfl, ?_⟩; have n0_ := Aside0.mk (blk_below (g := gb393) (o := .cells #[.int .i64 a0_0, .int .i64 a0_1] 23 (0, 0)) (by (with_reducible repeat (first | refine blk_drewN ?_ _ | refine blk_drew ?_ | refine blk_alloc ?_ _)); refine blk_far ?_ NB393_411.out _; (with_reducible repeat (first | refine blk_drewN ?_ _ | refine blk_drew ?_ | refine blk_alloc ?_ _)); refine blk_far ?_ NB393_411.out _; (with_reducible repeat (first | refine blk_drewN ?_ _ | refine blk_drew ?_ | refine blk_alloc ?_ _)); exact BK393.out) hb); have n1_ := Aside0.mk (blk_below (g := gb394) (o := .cells #[.int .i64 a1_0, .int .i64 a1_1] 23 (0, 0)) (by (with_reducible repeat (first | refine blk_drewN ?_ _ | refine blk_drew ?_ | refine blk_alloc ?_ _)); refine blk_far ?_ NB394_411.out _; (with_reducible repeat (first | refine blk_drewN ?_ _ | refine blk_drew ?_ | refine blk_alloc ?_ _)); refine blk_far ?_ NB394_411.out _; (with_reducible repeat (first | refine blk_drewN ?_ _ | refine blk_drew ?_ | refine blk_alloc ?_ _)); exact BK394.out) hb); have n2_ := Aside0.mk (blk_below (g := gb395) (o := .cells #[.int .i64 a2_0, .int .i64 a2_1] 23 (0, 0)) (by (with_reducible repeat (first | refine blk_drewN ?_ _ | refine blk_drew ?_ | refine blk_alloc ?_ _)); refine blk_far ?_ NB395_411.out _; (with_reducible repeat (first | refine blk_drewN ?_ _ | refine blk_drew ?_ | refine blk_alloc ?_ _)); refine blk_far ?_ NB395_411.out _; (with_reducible repeat (first | refine blk_drewN ?_ _ | refine blk_drew ?_ | refine blk_alloc ?_ _)); exact BK395.out) hb); have n3_ := Aside0.mk (blk_below (g := gb399) (o := .cells #[.int .i64 t396, .int .i64 t397] 23 (0, 0)) (by (with_reducible repeat (first | refine blk_drewN ?_ _ | refine blk_drew ?_ | refine blk_alloc ?_ _)); refine blk_far ?_ NB399_411.out _; (with_reducible repeat (first | refine blk_drewN ?_ _ | refine blk_drew ?_ | refine blk_alloc ?_ _)); refine blk_far ?_ NB399_411.out _; (with_reducible repeat (first | refine blk_drewN ?_ _ | refine blk_drew ?_ | refine blk_alloc ?_ _)); exact BK399.out) hb); have n4_ := Aside0.mk (blk_below (g := gb403) (o := .cells #[.int .i64 t400, .int .i64 t401] 23 (0, 0)) (by (with_reducible repeat (first | refine blk_drewN ?_ _ | refine blk_drew ?_ | refine blk_alloc ?_ _)); refine blk_far ?_ NB403_411.out _; (with_reducible repeat (first | refine blk_drewN ?_ _ | refine blk_drew ?_ | refine blk_alloc ?_ _)); refine blk_far ?_ NB403_411.out _; (with_reducible repeat (first | refine blk_drewN ?_ _ | refine blk_drew ?_ | refine blk_alloc ?_ _)); exact BK403.out) hb); have n5_ := Aside0.mk (blk_below (g := gb407) (o := .cells #[.int .i64 t404, .int .i64 t405] 23 (0, 0)) (by (with_reducible repeat (first | refine blk_drewN ?_ _ | refine blk_drew ?_ | refine blk_alloc ?_ _)); refine blk_far ?_ NB407_411.out _; (with_reducible repeat (first | refine blk_drewN ?_ _ | refine blk_drew ?_ | refine blk_alloc ?_ _)); refine blk_far ?_ NB407_411.out _; (with_reducible repeat (first | refine blk_drewN ?_ _ | refine blk_drew ?_ | refine blk_alloc ?_ _)); exact BK407.out) hb); have n6_ := Aside0.mk (blk_below (g := gb411) (o := .cells #[.int .i64 t408, .int .i64 t409] 23 (0, 0)) (by (with_reducible repeat (first | refine blk_drewN ?_ _ | refine blk_drew ?_ | refine blk_alloc ?_ _)); refine blk_put (cs := #[.int .i64 t408, .int .i64 0]) ?_ 1 _ rfl; (with_reducible repeat (first | refine blk_drewN ?_ _ | refine blk_drew ?_ | refine blk_alloc ?_ _)); refine blk_put (cs := #[.int .i64 0, .int .i64 0]) ?_ 0 _ rfl; (with_reducible repeat (first | refine blk_drewN ?_ _ | refine blk_drew ?_ | refine blk_alloc ?_ _)); exact BK411.out) hb); have n7_ := Aside0.mk (below_step (by repeat (first | (with_reducible first | exact HB.out | apply below_alloc | apply pw_below_drewN | apply below_drew1 | refine below_set ?_ GE393.out | refine below_set ?_ GE394.out | refine below_set ?_ GE395.out | refine below_set ?_ GE399.out | refine below_set ?_ GE403.out | refine below_set ?_ GE407.out | refine below_set ?_ GE411.out) | exact HB.out)) hb); clear BK393; clear BK394; clear BK395; clear BK399; clear BK403; clear BK407; clear BK411; clear HB; have BK393 := n0_; have BK394 := n1_; have BK395 := n2_; have BK399 := n3_; have BK403 := n4_; have BK407 := n5_; have BK411 := n6_; have HB := n7_; clear n0_ n1_ n2_ n3_ n4_ n5_ n6_ n7_; (try clear hb); (try clear hb2); (try clear hk); (try clear hi)))
      go_meet
      case rel => exact ⟨_, (true), (by first | rfl | (simp; done) | (simp [*]; done)), H', ⟨by first | omega | exact Nat.le_refl _⟩, ⟨by (with_reducible repeat (first | refine blk_drewN ?_ _ | refine blk_drew ?_ | refine blk_alloc ?_ _)); exact BK393.out⟩, ⟨by (with_reducible repeat (first | refine blk_drewN ?_ _ | refine blk_drew ?_ | refine blk_alloc ?_ _)); exact BK394.out⟩, ⟨by (with_reducible repeat (first | refine blk_drewN ?_ _ | refine blk_drew ?_ | refine blk_alloc ?_ _)); exact BK395.out⟩, ⟨by (with_reducible repeat (first | refine blk_drewN ?_ _ | refine blk_drew ?_ | refine blk_alloc ?_ _)); exact BK399.out⟩, ⟨by (with_reducible repeat (first | refine blk_drewN ?_ _ | refine blk_drew ?_ | refine blk_alloc ?_ _)); exact BK403.out⟩, ⟨by (with_reducible repeat (first | refine blk_drewN ?_ _ | refine blk_drew ?_ | refine blk_alloc ?_ _)); exact BK407.out⟩, ⟨by (with_reducible repeat (first | refine blk_drewN ?_ _ | refine blk_drew ?_ | refine blk_alloc ?_ _)); exact BK411.out⟩, ⟨by repeat (first | (with_reducible first | exact HB.out | apply below_alloc | apply pw_below_drewN | apply below_drew1 | refine below_set ?_ GE393.out | refine below_set ?_ GE394.out | refine below_set ?_ GE395.out | refine below_set ?_ GE399.out | refine below_set ?_ GE403.out | refine below_set ?_ GE407.out | refine below_set ?_ GE411.out) | exact HB.out)⟩⟩
  case rest =>
    clear HC9
    try clear c1
    try clear c2
    try clear p2
    try clear c3
    try clear c4
    try clear c5
    try clear c6
    try clear c7
    try clear c8
    try clear c9
    try clear c10
    try clear c11
    try clear c12
    try clear c13
    try clear c14
    try clear c16
    try clear c20
    try clear c21
    try clear c22
    try clear c24
    try clear c28
    try clear c29
    try clear c30
    try clear c31
    try clear c37
    try clear c38
    try clear c39
    try clear c40
    try clear c41
    try clear c47
    try clear c48
    try clear c49
    try clear c50
    try clear c51
    try clear c52
    try clear c55
    try clear c56
    try clear c56b0
    try clear c58
    try clear c59
    try clear c60
    try clear c61
    try clear c62
    try clear c63
    try clear c65
    try clear c66
    try clear c67
    try clear c68
    try clear c69
    try clear c71
    try clear c71b0
    try clear c71b1
    try clear c72
    try clear c72b0
    try clear c74
    try clear c75
    try clear c76
    try clear c77
    try clear c78
    try clear c79
    try clear c81
    try clear c82
    try clear c83
    try clear c84
    try clear c85
    try clear c87
    try clear c88
    try clear c89
    try clear c90
    try clear c92
    try clear c93
    try clear c94
    try clear c97
    try clear c98
    try clear c99
    try clear c100
    try clear c101
    try clear c102
    try clear c104
    try clear c105
    try clear c106
    try clear c107
    try clear c108
    try clear c110
    try clear c111
    try clear c112
    try clear c113
    try clear c115
    try clear c116
    try clear c117
    try clear c120
    try clear c121
    try clear c122
    try clear c123
    try clear c124
    try clear c125
    try clear c127
    try clear c128
    try clear c129
    try clear c130
    try clear c131
    try clear hcz103_0
    try clear hcz103_1
    try clear hcz109_0
    try clear hcz109_1
    try clear hcz114_0
    try clear hcz114_1
    try clear hcz118_0
    try clear hcz118_1
    try clear hcz126_0
    try clear hcz126_1
    try clear hcz132_0
    try clear hcz132_1
    try clear hcz15_0
    try clear hcz15_1
    try clear hcz17_0
    try clear hcz17_1
    try clear hcz23_0
    try clear hcz23_1
    try clear hcz24_0
    try clear hcz24_1
    try clear hcz25_0
    try clear hcz25_1
    try clear hcz32_0
    try clear hcz32_1
    try clear hcz33_0
    try clear hcz33_1
    try clear hcz34_0
    try clear hcz34_1
    try clear hcz42_0
    try clear hcz42_1
    try clear hcz43_0
    try clear hcz43_1
    try clear hcz44_0
    try clear hcz44_1
    try clear hcz53_0
    try clear hcz53_1
    try clear hcz64_0
    try clear hcz64_1
    try clear hcz70_0
    try clear hcz70_1
    try clear hcz80_0
    try clear hcz80_1
    try clear hcz86_0
    try clear hcz86_1
    try clear hcz91_0
    try clear hcz91_1
    try clear hcz95_0
    try clear hcz95_1
    try clear hfz103_0
    try clear hfz103_1
    try clear hfz109_0
    try clear hfz109_1
    try clear hfz114_0
    try clear hfz114_1
    try clear hfz118_0
    try clear hfz118_1
    try clear hfz126_0
    try clear hfz126_1
    try clear hfz132_0
    try clear hfz132_1
    try clear hfz15_0
    try clear hfz15_1
    try clear hfz17_0
    try clear hfz17_1
    try clear hfz23_0
    try clear hfz23_1
    try clear hfz24_0
    try clear hfz24_1
    try clear hfz25_0
    try clear hfz25_1
    try clear hfz32_0
    try clear hfz32_1
    try clear hfz33_0
    try clear hfz33_1
    try clear hfz34_0
    try clear hfz34_1
    try clear hfz42_0
    try clear hfz42_1
    try clear hfz43_0
    try clear hfz43_1
    try clear hfz44_0
    try clear hfz44_1
    try clear hfz53_0
    try clear hfz53_1
    try clear hfz64_0
    try clear hfz64_1
    try clear hfz70_0
    try clear hfz70_1
    try clear hfz80_0
    try clear hfz80_1
    try clear hfz86_0
    try clear hfz86_1
    try clear hfz91_0
    try clear hfz91_1
    try clear hfz95_0
    try clear hfz95_1
    obtain ⟨kq, x73_8, rfl, HA, HJ8, BK393, BK394, BK395, BK399, BK403, BK407, BK411, HB⟩ := hcut
    cases kq with
    | zero => exact absurd HA.out (by simp [soffitlaw01_DeciLaws.j0])
    | succ kj8 =>
      have H := HA.out
      clear HA
      simp only [soffitlaw01_DeciLaws.j0] at H
      by_cases c134 : x73_8 = true
      · subst c134
        have H1 : (some false) = some r := by rw [if_pos rfl] at H; exact H
        clear H
        have H := H1
        clear H1
        exact absurd HR.out (by rw [← Option.some.inj H]; simp)
      · replace c134 := Bool.eq_false_iff.mpr c134
        subst c134
        have H1 : (if t398 = 0 then ((deci_Add.f kj8 a2_0 a2_1 a1_0 a1_1).bind fun bt413 => ((deci_Compare.f kj8 a0_0 a0_1 a2_0 a2_1).bind fun bt417 => (if bt413.2.2 = 0 then (soffitlaw01_DeciLaws.j1 kj8 a3 bt417.1 (bt417.2 == 0) a0_0 a0_1 t396 t397 bt413.1 bt413.2.1) else (soffitlaw01_DeciLaws.j1 kj8 a3 bt417.1 false a0_0 a0_1 t396 t397 bt413.1 bt413.2.1)))) else (some true)) = some r := by rw [if_neg (show ¬ (false = true) by decide)] at H; exact H
        clear H
        have H := H1
        clear H1
        by_cases c135 : t398 = 0
        · rw [if_pos c135] at H
          have c135b0 : (t398 == 0) = true := beq_iff_eq.mpr c135
          have c135b1 : (t398 != 0) = false := bne_eq_false_iff_eq.mpr c135
          clear c135
          replace H := Option.bind_eq_some_iff.mp H
          obtain ⟨⟨t413, t414, t415⟩, A1360, H⟩ := H
          replace H : ((deci_Compare.f kj8 a0_0 a0_1 a2_0 a2_1).bind fun bt417 => (if t415 = 0 then (soffitlaw01_DeciLaws.j1 kj8 a3 bt417.1 (bt417.2 == 0) a0_0 a0_1 t396 t397 t413 t414) else (soffitlaw01_DeciLaws.j1 kj8 a3 bt417.1 false a0_0 a0_1 t396 t397 t413 t414))) = some r := H
          have A136 := Aside0.mk A1360
          clear A1360
          replace H := Option.bind_eq_some_iff.mp H
          obtain ⟨⟨t417, t418⟩, A1370, H⟩ := H
          replace H : (if t415 = 0 then (soffitlaw01_DeciLaws.j1 kj8 a3 t417 (t418 == 0) a0_0 a0_1 t396 t397 t413 t414) else (soffitlaw01_DeciLaws.j1 kj8 a3 t417 false a0_0 a0_1 t396 t397 t413 t414)) = some r := H
          have A137 := Aside0.mk A1370
          clear A1370
          have HC138 := Aside0.mk H
          clear H
          have hnb139 := NB395_393.out
          have hnc139 := NB393_395.out
          have hnb140 := NB395_394.out
          have hnc140 := NB394_395.out
          have hnb141 := NB395_399.out
          have hnc141 := NB399_395.out
          have hnb142 := NB395_403.out
          have hnc142 := NB403_395.out
          have hnb143 := NB395_407.out
          have hnc143 := NB407_395.out
          have hnb144 := NB395_411.out
          have hnc144 := NB411_395.out
          have hcz145_0 : wc.cell? ⟨gb395, 0, none⟩ = some (.int .i64 a2_0) := (blk_cell BK395.out 0).trans rfl
          have hcz145_1 : wc.cell? ⟨gb395, 1, none⟩ = some (.int .i64 a2_1) := (blk_cell BK395.out 1).trans rfl
          have hfz145_0 := blk_frozen BK395.out 0
          have hfz145_1 := blk_frozen BK395.out 1
          have hnb146 := NB394_393.out
          have hnc146 := NB393_394.out
          have hnb147 := NB394_399.out
          have hnc147 := NB399_394.out
          have hnb148 := NB394_403.out
          have hnc148 := NB403_394.out
          have hnb149 := NB394_407.out
          have hnc149 := NB407_394.out
          have hnb150 := NB394_411.out
          have hnc150 := NB411_394.out
          have hcz151_0 : wc.cell? ⟨gb394, 0, none⟩ = some (.int .i64 a1_0) := (blk_cell BK394.out 0).trans rfl
          have hcz151_1 : wc.cell? ⟨gb394, 1, none⟩ = some (.int .i64 a1_1) := (blk_cell BK394.out 1).trans rfl
          have hfz151_0 := blk_frozen BK394.out 0
          have hfz151_1 := blk_frozen BK394.out 1
          go_upto_region 11 with (first | ((with_reducible refine gate_callee (f := 22) rfl ?_); refine goesL_ (some 79) rfl rfl Tryd.func22 (by kernel_rfl) rfl #[.agg #[.int .i64 a2_0, .int .i64 a2_1], .agg #[.int .i64 a1_0, .int .i64 a1_1]] rfl (by (try simp only [List.map_toArray, List.map_cons, List.map_nil]); first | done | rfl | (simp only [List.length_drop, List.length_take]; rfl)) ?_; (with_reducible refine (deci_Add.calls kj8 a2_0 a2_1 a1_0 a1_1 t413 t414 t415 _ A136.out).mono ?_); rintro e w152 ⟨rfl, hb⟩; refine ⟨_, rfl, ?_⟩; have n0_ := Aside0.mk (blk_below (g := gb393) (o := .cells #[.int .i64 a0_0, .int .i64 a0_1] 23 (0, 0)) (by (with_reducible repeat (first | refine blk_drewN ?_ _ | refine blk_drew ?_ | refine blk_alloc ?_ _)); exact BK393.out) hb); have n1_ := Aside0.mk (blk_below (g := gb394) (o := .cells #[.int .i64 a1_0, .int .i64 a1_1] 23 (0, 0)) (by (with_reducible repeat (first | refine blk_drewN ?_ _ | refine blk_drew ?_ | refine blk_alloc ?_ _)); exact BK394.out) hb); have n2_ := Aside0.mk (blk_below (g := gb395) (o := .cells #[.int .i64 a2_0, .int .i64 a2_1] 23 (0, 0)) (by (with_reducible repeat (first | refine blk_drewN ?_ _ | refine blk_drew ?_ | refine blk_alloc ?_ _)); exact BK395.out) hb); have n3_ := Aside0.mk (blk_below (g := gb399) (o := .cells #[.int .i64 t396, .int .i64 t397] 23 (0, 0)) (by (with_reducible repeat (first | refine blk_drewN ?_ _ | refine blk_drew ?_ | refine blk_alloc ?_ _)); exact BK399.out) hb); have n4_ := Aside0.mk (blk_below (g := gb403) (o := .cells #[.int .i64 t400, .int .i64 t401] 23 (0, 0)) (by (with_reducible repeat (first | refine blk_drewN ?_ _ | refine blk_drew ?_ | refine blk_alloc ?_ _)); exact BK403.out) hb); have n5_ := Aside0.mk (blk_below (g := gb407) (o := .cells #[.int .i64 t404, .int .i64 t405] 23 (0, 0)) (by (with_reducible repeat (first | refine blk_drewN ?_ _ | refine blk_drew ?_ | refine blk_alloc ?_ _)); exact BK407.out) hb); have n6_ := Aside0.mk (blk_below (g := gb411) (o := .cells #[.int .i64 t408, .int .i64 t409] 23 (0, 0)) (by (with_reducible repeat (first | refine blk_drewN ?_ _ | refine blk_drew ?_ | refine blk_alloc ?_ _)); exact BK411.out) hb); have n7_ := Aside0.mk (below_step (by repeat (first | (with_reducible first | exact HB.out | apply below_alloc | apply pw_below_drewN | apply below_drew1 | refine below_set ?_ GE393.out | refine below_set ?_ GE394.out | refine below_set ?_ GE395.out | refine below_set ?_ GE399.out | refine below_set ?_ GE403.out | refine below_set ?_ GE407.out | refine below_set ?_ GE411.out) | exact HB.out)) hb); clear BK393; clear BK394; clear BK395; clear BK399; clear BK403; clear BK407; clear BK411; clear HB; have BK393 := n0_; have BK394 := n1_; have BK395 := n2_; have BK399 := n3_; have BK403 := n4_; have BK407 := n5_; have BK411 := n6_; have HB := n7_; clear n0_ n1_ n2_ n3_ n4_ n5_ n6_ n7_; (try clear hb); (try clear hb2); (try clear hk); (try clear hi)) | ((with_reducible refine gate_dst (N := 17) rfl ?_); refine box_event ?hg (N := 17) ?hd (cs := #[.int .i64 0, .int .i64 0]) (t := 23) ?hr ?_; (case hd => rfl); (case hg => rfl); (case hr => first | (go_simp; done) | (go_simp; rfl)); intro gb416 hg w153 hbox hb; have n0_ := Aside0.mk (blk_below (g := gb393) (o := .cells #[.int .i64 a0_0, .int .i64 a0_1] 23 (0, 0)) (by (with_reducible repeat (first | refine blk_drewN ?_ _ | refine blk_drew ?_ | refine blk_alloc ?_ _)); exact BK393.out) hb); have n1_ := Aside0.mk (blk_below (g := gb394) (o := .cells #[.int .i64 a1_0, .int .i64 a1_1] 23 (0, 0)) (by (with_reducible repeat (first | refine blk_drewN ?_ _ | refine blk_drew ?_ | refine blk_alloc ?_ _)); exact BK394.out) hb); have n2_ := Aside0.mk (blk_below (g := gb395) (o := .cells #[.int .i64 a2_0, .int .i64 a2_1] 23 (0, 0)) (by (with_reducible repeat (first | refine blk_drewN ?_ _ | refine blk_drew ?_ | refine blk_alloc ?_ _)); exact BK395.out) hb); have n3_ := Aside0.mk (blk_below (g := gb399) (o := .cells #[.int .i64 t396, .int .i64 t397] 23 (0, 0)) (by (with_reducible repeat (first | refine blk_drewN ?_ _ | refine blk_drew ?_ | refine blk_alloc ?_ _)); exact BK399.out) hb); have n4_ := Aside0.mk (blk_below (g := gb403) (o := .cells #[.int .i64 t400, .int .i64 t401] 23 (0, 0)) (by (with_reducible repeat (first | refine blk_drewN ?_ _ | refine blk_drew ?_ | refine blk_alloc ?_ _)); exact BK403.out) hb); have n5_ := Aside0.mk (blk_below (g := gb407) (o := .cells #[.int .i64 t404, .int .i64 t405] 23 (0, 0)) (by (with_reducible repeat (first | refine blk_drewN ?_ _ | refine blk_drew ?_ | refine blk_alloc ?_ _)); exact BK407.out) hb); have n6_ := Aside0.mk (blk_below (g := gb411) (o := .cells #[.int .i64 t408, .int .i64 t409] 23 (0, 0)) (by (with_reducible repeat (first | refine blk_drewN ?_ _ | refine blk_drew ?_ | refine blk_alloc ?_ _)); exact BK411.out) hb); have n7_ := Aside0.mk (below_step (by repeat (first | (with_reducible first | exact HB.out | apply below_alloc | apply pw_below_drewN | apply below_drew1 | refine below_set ?_ GE393.out | refine below_set ?_ GE394.out | refine below_set ?_ GE395.out | refine below_set ?_ GE399.out | refine below_set ?_ GE403.out | refine below_set ?_ GE407.out | refine below_set ?_ GE411.out) | exact HB.out)) hb); have n8_ := Aside0.mk (hbox); have n9_ := Aside0.mk ((by rw [hg]; exact (below_size (by repeat (first | (with_reducible first | exact HB.out | apply below_alloc | apply pw_below_drewN | apply below_drew1 | refine below_set ?_ GE393.out | refine below_set ?_ GE394.out | refine below_set ?_ GE395.out | refine below_set ?_ GE399.out | refine below_set ?_ GE403.out | refine below_set ?_ GE407.out | refine below_set ?_ GE411.out) | exact HB.out))) : w.heap.size ≤ gb416)); have n10_ := Aside0.mk ((by rw [hg]; exact (below_size (by repeat (first | (with_reducible first | exact HB.out | apply below_alloc | apply pw_below_drewN | apply below_drew1 | refine below_set ?_ GE393.out | refine below_set ?_ GE394.out | refine below_set ?_ GE395.out | refine below_set ?_ GE399.out | refine below_set ?_ GE403.out | refine below_set ?_ GE407.out | refine below_set ?_ GE411.out) | exact HB.out))) : w.heap.size ≤ gb416)); have n11_ := Aside0.mk ((by rw [hg]; exact Nat.ne_of_lt (blk_lt (g := gb393) (o := .cells #[.int .i64 a0_0, .int .i64 a0_1] 23 (0, 0)) (by (with_reducible repeat (first | refine blk_drewN ?_ _ | refine blk_drew ?_ | refine blk_alloc ?_ _)); exact BK393.out)) : gb393 ≠ gb416)); have n12_ := Aside0.mk ((by rw [hg]; exact Nat.ne_of_gt (blk_lt (g := gb393) (o := .cells #[.int .i64 a0_0, .int .i64 a0_1] 23 (0, 0)) (by (with_reducible repeat (first | refine blk_drewN ?_ _ | refine blk_drew ?_ | refine blk_alloc ?_ _)); exact BK393.out)) : gb416 ≠ gb393)); have n13_ := Aside0.mk ((by rw [hg]; exact Nat.ne_of_lt (blk_lt (g := gb394) (o := .cells #[.int .i64 a1_0, .int .i64 a1_1] 23 (0, 0)) (by (with_reducible repeat (first | refine blk_drewN ?_ _ | refine blk_drew ?_ | refine blk_alloc ?_ _)); exact BK394.out)) : gb394 ≠ gb416)); have n14_ := Aside0.mk ((by rw [hg]; exact Nat.ne_of_gt (blk_lt (g := gb394) (o := .cells #[.int .i64 a1_0, .int .i64 a1_1] 23 (0, 0)) (by (with_reducible repeat (first | refine blk_drewN ?_ _ | refine blk_drew ?_ | refine blk_alloc ?_ _)); exact BK394.out)) : gb416 ≠ gb394)); have n15_ := Aside0.mk ((by rw [hg]; exact Nat.ne_of_lt (blk_lt (g := gb395) (o := .cells #[.int .i64 a2_0, .int .i64 a2_1] 23 (0, 0)) (by (with_reducible repeat (first | refine blk_drewN ?_ _ | refine blk_drew ?_ | refine blk_alloc ?_ _)); exact BK395.out)) : gb395 ≠ gb416)); have n16_ := Aside0.mk ((by rw [hg]; exact Nat.ne_of_gt (blk_lt (g := gb395) (o := .cells #[.int .i64 a2_0, .int .i64 a2_1] 23 (0, 0)) (by (with_reducible repeat (first | refine blk_drewN ?_ _ | refine blk_drew ?_ | refine blk_alloc ?_ _)); exact BK395.out)) : gb416 ≠ gb395)); have n17_ := Aside0.mk ((by rw [hg]; exact Nat.ne_of_lt (blk_lt (g := gb399) (o := .cells #[.int .i64 t396, .int .i64 t397] 23 (0, 0)) (by (with_reducible repeat (first | refine blk_drewN ?_ _ | refine blk_drew ?_ | refine blk_alloc ?_ _)); exact BK399.out)) : gb399 ≠ gb416)); have n18_ := Aside0.mk ((by rw [hg]; exact Nat.ne_of_gt (blk_lt (g := gb399) (o := .cells #[.int .i64 t396, .int .i64 t397] 23 (0, 0)) (by (with_reducible repeat (first | refine blk_drewN ?_ _ | refine blk_drew ?_ | refine blk_alloc ?_ _)); exact BK399.out)) : gb416 ≠ gb399)); have n19_ := Aside0.mk ((by rw [hg]; exact Nat.ne_of_lt (blk_lt (g := gb403) (o := .cells #[.int .i64 t400, .int .i64 t401] 23 (0, 0)) (by (with_reducible repeat (first | refine blk_drewN ?_ _ | refine blk_drew ?_ | refine blk_alloc ?_ _)); exact BK403.out)) : gb403 ≠ gb416)); have n20_ := Aside0.mk ((by rw [hg]; exact Nat.ne_of_gt (blk_lt (g := gb403) (o := .cells #[.int .i64 t400, .int .i64 t401] 23 (0, 0)) (by (with_reducible repeat (first | refine blk_drewN ?_ _ | refine blk_drew ?_ | refine blk_alloc ?_ _)); exact BK403.out)) : gb416 ≠ gb403)); have n21_ := Aside0.mk ((by rw [hg]; exact Nat.ne_of_lt (blk_lt (g := gb407) (o := .cells #[.int .i64 t404, .int .i64 t405] 23 (0, 0)) (by (with_reducible repeat (first | refine blk_drewN ?_ _ | refine blk_drew ?_ | refine blk_alloc ?_ _)); exact BK407.out)) : gb407 ≠ gb416)); have n22_ := Aside0.mk ((by rw [hg]; exact Nat.ne_of_gt (blk_lt (g := gb407) (o := .cells #[.int .i64 t404, .int .i64 t405] 23 (0, 0)) (by (with_reducible repeat (first | refine blk_drewN ?_ _ | refine blk_drew ?_ | refine blk_alloc ?_ _)); exact BK407.out)) : gb416 ≠ gb407)); have n23_ := Aside0.mk ((by rw [hg]; exact Nat.ne_of_lt (blk_lt (g := gb411) (o := .cells #[.int .i64 t408, .int .i64 t409] 23 (0, 0)) (by (with_reducible repeat (first | refine blk_drewN ?_ _ | refine blk_drew ?_ | refine blk_alloc ?_ _)); exact BK411.out)) : gb411 ≠ gb416)); have n24_ := Aside0.mk ((by rw [hg]; exact Nat.ne_of_gt (blk_lt (g := gb411) (o := .cells #[.int .i64 t408, .int .i64 t409] 23 (0, 0)) (by (with_reducible repeat (first | refine blk_drewN ?_ _ | refine blk_drew ?_ | refine blk_alloc ?_ _)); exact BK411.out)) : gb416 ≠ gb411)); clear BK393; clear BK394; clear BK395; clear BK399; clear BK403; clear BK407; clear BK411; clear HB; have BK393 := n0_; have BK394 := n1_; have BK395 := n2_; have BK399 := n3_; have BK403 := n4_; have BK407 := n5_; have BK411 := n6_; have HB := n7_; have BK416 := n8_; have GW416 := n9_; have GE416 := n10_; have NB393_416 := n11_; have NB416_393 := n12_; have NB394_416 := n13_; have NB416_394 := n14_; have NB395_416 := n15_; have NB416_395 := n16_; have NB399_416 := n17_; have NB416_399 := n18_; have NB403_416 := n19_; have NB416_403 := n20_; have NB407_416 := n21_; have NB416_407 := n22_; have NB411_416 := n23_; have NB416_411 := n24_; clear n0_ n1_ n2_ n3_ n4_ n5_ n6_ n7_ n8_ n9_ n10_ n11_ n12_ n13_ n14_ n15_ n16_ n17_ n18_ n19_ n20_ n21_ n22_ n23_ n24_; clear hb hbox hg; have hnb154 := NB416_393.out; have hnc154 := NB393_416.out; have hnb155 := NB416_394.out; have hnc155 := NB394_416.out; have hnb156 := NB416_395.out; have hnc156 := NB395_416.out; have hnb157 := NB416_399.out; have hnc157 := NB399_416.out; have hnb158 := NB416_403.out; have hnc158 := NB403_416.out; have hnb159 := NB416_407.out; have hnc159 := NB407_416.out; have hnb160 := NB416_411.out; have hnc160 := NB411_416.out; have hcz161_0 : w153.cell? ⟨gb416, 0, none⟩ = some (.int .i64 0) := (blk_cell BK416.out 0).trans rfl; have hcz161_1 : w153.cell? ⟨gb416, 1, none⟩ = some (.int .i64 0) := (blk_cell BK416.out 1).trans rfl; have hfz161_0 := blk_frozen BK416.out 0; have hfz161_1 := blk_frozen BK416.out 1; have hnb162 := NB393_399.out; have hnc162 := NB399_393.out; have hnb163 := NB393_403.out; have hnc163 := NB403_393.out; have hnb164 := NB393_407.out; have hnc164 := NB407_393.out; have hnb165 := NB393_411.out; have hnc165 := NB411_393.out; have hcz166_0 : w153.cell? ⟨gb393, 0, none⟩ = some (.int .i64 a0_0) := (blk_cell BK393.out 0).trans rfl; have hcz166_1 : w153.cell? ⟨gb393, 1, none⟩ = some (.int .i64 a0_1) := (blk_cell BK393.out 1).trans rfl; have hfz166_0 := blk_frozen BK393.out 0; have hfz166_1 := blk_frozen BK393.out 1; have hcz167_0 : w153.cell? ⟨gb395, 0, none⟩ = some (.int .i64 a2_0) := (blk_cell BK395.out 0).trans rfl; have hcz167_1 : w153.cell? ⟨gb395, 1, none⟩ = some (.int .i64 a2_1) := (blk_cell BK395.out 1).trans rfl; have hfz167_0 := blk_frozen BK395.out 0; have hfz167_1 := blk_frozen BK395.out 1) | ((with_reducible refine gate_callee (f := 25) rfl ?_); refine goesL_ (some 85) rfl rfl Tryd.func25 (by kernel_rfl) rfl #[.agg #[.int .i64 a0_0, .int .i64 a0_1], .agg #[.int .i64 a2_0, .int .i64 a2_1]] rfl (by (try simp only [List.map_toArray, List.map_cons, List.map_nil]); first | done | rfl | (simp only [List.length_drop, List.length_take]; rfl)) ?_; (with_reducible refine (deci_Compare.calls kj8 a0_0 a0_1 a2_0 a2_1 t417 t418 _ A137.out).mono ?_); rintro e w168 ⟨rfl, hb⟩; refine ⟨_, rfl, ?_⟩; have n0_ := Aside0.mk (blk_below (g := gb393) (o := .cells #[.int .i64 a0_0, .int .i64 a0_1] 23 (0, 0)) (by (with_reducible repeat (first | refine blk_drewN ?_ _ | refine blk_drew ?_ | refine blk_alloc ?_ _)); refine blk_far ?_ NB393_416.out _; (with_reducible repeat (first | refine blk_drewN ?_ _ | refine blk_drew ?_ | refine blk_alloc ?_ _)); refine blk_far ?_ NB393_416.out _; (with_reducible repeat (first | refine blk_drewN ?_ _ | refine blk_drew ?_ | refine blk_alloc ?_ _)); exact BK393.out) hb); have n1_ := Aside0.mk (blk_below (g := gb394) (o := .cells #[.int .i64 a1_0, .int .i64 a1_1] 23 (0, 0)) (by (with_reducible repeat (first | refine blk_drewN ?_ _ | refine blk_drew ?_ | refine blk_alloc ?_ _)); refine blk_far ?_ NB394_416.out _; (with_reducible repeat (first | refine blk_drewN ?_ _ | refine blk_drew ?_ | refine blk_alloc ?_ _)); refine blk_far ?_ NB394_416.out _; (with_reducible repeat (first | refine blk_drewN ?_ _ | refine blk_drew ?_ | refine blk_alloc ?_ _)); exact BK394.out) hb); have n2_ := Aside0.mk (blk_below (g := gb395) (o := .cells #[.int .i64 a2_0, .int .i64 a2_1] 23 (0, 0)) (by (with_reducible repeat (first | refine blk_drewN ?_ _ | refine blk_drew ?_ | refine blk_alloc ?_ _)); refine blk_far ?_ NB395_416.out _; (with_reducible repeat (first | refine blk_drewN ?_ _ | refine blk_drew ?_ | refine blk_alloc ?_ _)); refine blk_far ?_ NB395_416.out _; (with_reducible repeat (first | refine blk_drewN ?_ _ | refine blk_drew ?_ | refine blk_alloc ?_ _)); exact BK395.out) hb); have n3_ := Aside0.mk (blk_below (g := gb399) (o := .cells #[.int .i64 t396, .int .i64 t397] 23 (0, 0)) (by (with_reducible repeat (first | refine blk_drewN ?_ _ | refine blk_drew ?_ | refine blk_alloc ?_ _)); refine blk_far ?_ NB399_416.out _; (with_reducible repeat (first | refine blk_drewN ?_ _ | refine blk_drew ?_ | refine blk_alloc ?_ _)); refine blk_far ?_ NB399_416.out _; (with_reducible repeat (first | refine blk_drewN ?_ _ | refine blk_drew ?_ | refine blk_alloc ?_ _)); exact BK399.out) hb); have n4_ := Aside0.mk (blk_below (g := gb403) (o := .cells #[.int .i64 t400, .int .i64 t401] 23 (0, 0)) (by (with_reducible repeat (first | refine blk_drewN ?_ _ | refine blk_drew ?_ | refine blk_alloc ?_ _)); refine blk_far ?_ NB403_416.out _; (with_reducible repeat (first | refine blk_drewN ?_ _ | refine blk_drew ?_ | refine blk_alloc ?_ _)); refine blk_far ?_ NB403_416.out _; (with_reducible repeat (first | refine blk_drewN ?_ _ | refine blk_drew ?_ | refine blk_alloc ?_ _)); exact BK403.out) hb); have n5_ := Aside0.mk (blk_below (g := gb407) (o := .cells #[.int .i64 t404, .int .i64 t405] 23 (0, 0)) (by (with_reducible repeat (first | refine blk_drewN ?_ _ | refine blk_drew ?_ | refine blk_alloc ?_ _)); refine blk_far ?_ NB407_416.out _; (with_reducible repeat (first | refine blk_drewN ?_ _ | refine blk_drew ?_ | refine blk_alloc ?_ _)); refine blk_far ?_ NB407_416.out _; (with_reducible repeat (first | refine blk_drewN ?_ _ | refine blk_drew ?_ | refine blk_alloc ?_ _)); exact BK407.out) hb); have n6_ := Aside0.mk (blk_below (g := gb411) (o := .cells #[.int .i64 t408, .int .i64 t409] 23 (0, 0)) (by (with_reducible repeat (first | refine blk_drewN ?_ _ | refine blk_drew ?_ | refine blk_alloc ?_ _)); refine blk_far ?_ NB411_416.out _; (with_reducible repeat (first | refine blk_drewN ?_ _ | refine blk_drew ?_ | refine blk_alloc ?_ _)); refine blk_far ?_ NB411_416.out _; (with_reducible repeat (first | refine blk_drewN ?_ _ | refine blk_drew ?_ | refine blk_alloc ?_ _)); exact BK411.out) hb); have n7_ := Aside0.mk (blk_below (g := gb416) (o := .cells #[.int .i64 t413, .int .i64 t414] 23 (0, 0)) (by (with_reducible repeat (first | refine blk_drewN ?_ _ | refine blk_drew ?_ | refine blk_alloc ?_ _)); refine blk_put (cs := #[.int .i64 t413, .int .i64 0]) ?_ 1 _ rfl; (with_reducible repeat (first | refine blk_drewN ?_ _ | refine blk_drew ?_ | refine blk_alloc ?_ _)); refine blk_put (cs := #[.int .i64 0, .int .i64 0]) ?_ 0 _ rfl; (with_reducible repeat (first | refine blk_drewN ?_ _ | refine blk_drew ?_ | refine blk_alloc ?_ _)); exact BK416.out) hb); have n8_ := Aside0.mk (below_step (by repeat (first | (with_reducible first | exact HB.out | apply below_alloc | apply pw_below_drewN | apply below_drew1 | refine below_set ?_ GE393.out | refine below_set ?_ GE394.out | refine below_set ?_ GE395.out | refine below_set ?_ GE399.out | refine below_set ?_ GE403.out | refine below_set ?_ GE407.out | refine below_set ?_ GE411.out | refine below_set ?_ GE416.out) | exact HB.out)) hb); clear BK393; clear BK394; clear BK395; clear BK399; clear BK403; clear BK407; clear BK411; clear BK416; clear HB; have BK393 := n0_; have BK394 := n1_; have BK395 := n2_; have BK399 := n3_; have BK403 := n4_; have BK407 := n5_; have BK411 := n6_; have BK416 := n7_; have HB := n8_; clear n0_ n1_ n2_ n3_ n4_ n5_ n6_ n7_ n8_; (try clear hb); (try clear hb2); (try clear hk); (try clear hi)))
          (try simp only [Act.put, List.setIfInBounds_toArray, List.set_cons_zero, List.set_cons_succ])
          go_cut [93] (fun v93 wc => ∃ (kq : Nat) (x93_137 : Bool), v93 = .bool x93_137 ∧ Aside0 (soffitlaw01_DeciLaws.j1 kq a3 t417 x93_137 a0_0 a0_1 t396 t397 t413 t414 = some r) ∧ Aside0 (kq ≤ kj8) ∧ Aside0 (wc.heap[gb393]? = some (.cells #[.int .i64 a0_0, .int .i64 a0_1] 23 (0, 0))) ∧ Aside0 (wc.heap[gb394]? = some (.cells #[.int .i64 a1_0, .int .i64 a1_1] 23 (0, 0))) ∧ Aside0 (wc.heap[gb395]? = some (.cells #[.int .i64 a2_0, .int .i64 a2_1] 23 (0, 0))) ∧ Aside0 (wc.heap[gb399]? = some (.cells #[.int .i64 t396, .int .i64 t397] 23 (0, 0))) ∧ Aside0 (wc.heap[gb403]? = some (.cells #[.int .i64 t400, .int .i64 t401] 23 (0, 0))) ∧ Aside0 (wc.heap[gb407]? = some (.cells #[.int .i64 t404, .int .i64 t405] 23 (0, 0))) ∧ Aside0 (wc.heap[gb411]? = some (.cells #[.int .i64 t408, .int .i64 t409] 23 (0, 0))) ∧ Aside0 (wc.heap[gb416]? = some (.cells #[.int .i64 t413, .int .i64 t414] 23 (0, 0))) ∧ Aside0 (Below w.heap.size w wc))
          case first =>
            have H := HC138.out
            clear HC138
            by_cases c169 : t415 = 0
            · rw [if_pos c169] at H
              have c169b0 : (t415 == 0) = true := beq_iff_eq.mpr c169
              have c169b1 : (t415 != 0) = false := bne_eq_false_iff_eq.mpr c169
              clear c169
              (first | rw [c169b0] | (simp only [i64_w, i32_w]; rw [c169b0]) | skip)
              have H' := Aside0.mk H
              clear H
              go_wp2
              go_meet
              case rel => exact ⟨_, ((t418 == 0)), (by first | rfl | (simp; done) | (simp [*]; done)), H', ⟨by have := HJ8.out; first | omega | exact Nat.le_refl _⟩, ⟨by (with_reducible repeat (first | refine blk_drewN ?_ _ | refine blk_drew ?_ | refine blk_alloc ?_ _)); exact BK393.out⟩, ⟨by (with_reducible repeat (first | refine blk_drewN ?_ _ | refine blk_drew ?_ | refine blk_alloc ?_ _)); exact BK394.out⟩, ⟨by (with_reducible repeat (first | refine blk_drewN ?_ _ | refine blk_drew ?_ | refine blk_alloc ?_ _)); exact BK395.out⟩, ⟨by (with_reducible repeat (first | refine blk_drewN ?_ _ | refine blk_drew ?_ | refine blk_alloc ?_ _)); exact BK399.out⟩, ⟨by (with_reducible repeat (first | refine blk_drewN ?_ _ | refine blk_drew ?_ | refine blk_alloc ?_ _)); exact BK403.out⟩, ⟨by (with_reducible repeat (first | refine blk_drewN ?_ _ | refine blk_drew ?_ | refine blk_alloc ?_ _)); exact BK407.out⟩, ⟨by (with_reducible repeat (first | refine blk_drewN ?_ _ | refine blk_drew ?_ | refine blk_alloc ?_ _)); exact BK411.out⟩, ⟨by (with_reducible repeat (first | refine blk_drewN ?_ _ | refine blk_drew ?_ | refine blk_alloc ?_ _)); exact BK416.out⟩, ⟨by repeat (first | (with_reducible first | exact HB.out | apply below_alloc | apply pw_below_drewN | apply below_drew1 | refine below_set ?_ GE393.out | refine below_set ?_ GE394.out | refine below_set ?_ GE395.out | refine below_set ?_ GE399.out | refine below_set ?_ GE403.out | refine below_set ?_ GE407.out | refine below_set ?_ GE411.out | refine below_set ?_ GE416.out) | exact HB.out)⟩⟩
            · rw [if_neg c169] at H
              have c169b0 : (t415 == 0) = false := beq_eq_false_iff_ne.mpr c169
              have c169b1 : (t415 != 0) = true := bne_iff_ne.mpr c169
              (first | rw [c169b0] | (simp only [i64_w, i32_w]; rw [c169b0]) | skip)
              have H' := Aside0.mk H
              clear H
              go_wp2
              go_meet
              case rel => exact ⟨_, (false), (by first | rfl | (simp; done) | (simp [*]; done)), H', ⟨by have := HJ8.out; first | omega | exact Nat.le_refl _⟩, ⟨by (with_reducible repeat (first | refine blk_drewN ?_ _ | refine blk_drew ?_ | refine blk_alloc ?_ _)); exact BK393.out⟩, ⟨by (with_reducible repeat (first | refine blk_drewN ?_ _ | refine blk_drew ?_ | refine blk_alloc ?_ _)); exact BK394.out⟩, ⟨by (with_reducible repeat (first | refine blk_drewN ?_ _ | refine blk_drew ?_ | refine blk_alloc ?_ _)); exact BK395.out⟩, ⟨by (with_reducible repeat (first | refine blk_drewN ?_ _ | refine blk_drew ?_ | refine blk_alloc ?_ _)); exact BK399.out⟩, ⟨by (with_reducible repeat (first | refine blk_drewN ?_ _ | refine blk_drew ?_ | refine blk_alloc ?_ _)); exact BK403.out⟩, ⟨by (with_reducible repeat (first | refine blk_drewN ?_ _ | refine blk_drew ?_ | refine blk_alloc ?_ _)); exact BK407.out⟩, ⟨by (with_reducible repeat (first | refine blk_drewN ?_ _ | refine blk_drew ?_ | refine blk_alloc ?_ _)); exact BK411.out⟩, ⟨by (with_reducible repeat (first | refine blk_drewN ?_ _ | refine blk_drew ?_ | refine blk_alloc ?_ _)); exact BK416.out⟩, ⟨by repeat (first | (with_reducible first | exact HB.out | apply below_alloc | apply pw_below_drewN | apply below_drew1 | refine below_set ?_ GE393.out | refine below_set ?_ GE394.out | refine below_set ?_ GE395.out | refine below_set ?_ GE399.out | refine below_set ?_ GE403.out | refine below_set ?_ GE407.out | refine below_set ?_ GE411.out | refine below_set ?_ GE416.out) | exact HB.out)⟩⟩
          case rest =>
            clear HC138
            try clear c1
            try clear c2
            try clear p2
            try clear c3
            try clear c4
            try clear c5
            try clear c6
            try clear c7
            try clear c8
            try clear c9
            try clear c10
            try clear c11
            try clear c12
            try clear c13
            try clear c14
            try clear c15
            try clear c16
            try clear c20
            try clear c21
            try clear c22
            try clear c24
            try clear c25
            try clear c28
            try clear c29
            try clear c30
            try clear c31
            try clear c37
            try clear c38
            try clear c39
            try clear c40
            try clear c41
            try clear c47
            try clear c48
            try clear c49
            try clear c50
            try clear c51
            try clear c52
            try clear c55
            try clear c56
            try clear c56b0
            try clear c58
            try clear c59
            try clear c60
            try clear c61
            try clear c62
            try clear c63
            try clear c65
            try clear c66
            try clear c67
            try clear c68
            try clear c69
            try clear c71
            try clear c71b0
            try clear c71b1
            try clear c72
            try clear c72b0
            try clear c74
            try clear c75
            try clear c76
            try clear c77
            try clear c78
            try clear c79
            try clear c81
            try clear c82
            try clear c83
            try clear c84
            try clear c85
            try clear c87
            try clear c88
            try clear c89
            try clear c90
            try clear c92
            try clear c93
            try clear c94
            try clear c97
            try clear c98
            try clear c99
            try clear c100
            try clear c101
            try clear c102
            try clear c104
            try clear c105
            try clear c106
            try clear c107
            try clear c108
            try clear c110
            try clear c111
            try clear c112
            try clear c113
            try clear c115
            try clear c116
            try clear c117
            try clear c120
            try clear c121
            try clear c122
            try clear c123
            try clear c124
            try clear c125
            try clear c127
            try clear c128
            try clear c129
            try clear c130
            try clear c131
            try clear c134
            try clear c135
            try clear c135b0
            try clear c135b1
            try clear c139
            try clear c140
            try clear c141
            try clear c142
            try clear c143
            try clear c144
            try clear c146
            try clear c147
            try clear c148
            try clear c149
            try clear c150
            try clear c154
            try clear c155
            try clear c156
            try clear c157
            try clear c158
            try clear c159
            try clear c160
            try clear c162
            try clear c163
            try clear c164
            try clear c165
            try clear c169
            try clear c169b0
            try clear c169b1
            try clear hcz103_0
            try clear hcz103_1
            try clear hcz109_0
            try clear hcz109_1
            try clear hcz114_0
            try clear hcz114_1
            try clear hcz118_0
            try clear hcz118_1
            try clear hcz126_0
            try clear hcz126_1
            try clear hcz132_0
            try clear hcz132_1
            try clear hcz145_0
            try clear hcz145_1
            try clear hcz151_0
            try clear hcz151_1
            try clear hcz15_0
            try clear hcz15_1
            try clear hcz161_0
            try clear hcz161_1
            try clear hcz166_0
            try clear hcz166_1
            try clear hcz167_0
            try clear hcz167_1
            try clear hcz17_0
            try clear hcz17_1
            try clear hcz23_0
            try clear hcz23_1
            try clear hcz24_0
            try clear hcz24_1
            try clear hcz25_0
            try clear hcz25_1
            try clear hcz32_0
            try clear hcz32_1
            try clear hcz33_0
            try clear hcz33_1
            try clear hcz34_0
            try clear hcz34_1
            try clear hcz42_0
            try clear hcz42_1
            try clear hcz43_0
            try clear hcz43_1
            try clear hcz44_0
            try clear hcz44_1
            try clear hcz53_0
            try clear hcz53_1
            try clear hcz64_0
            try clear hcz64_1
            try clear hcz70_0
            try clear hcz70_1
            try clear hcz80_0
            try clear hcz80_1
            try clear hcz86_0
            try clear hcz86_1
            try clear hcz91_0
            try clear hcz91_1
            try clear hcz95_0
            try clear hcz95_1
            try clear hfz103_0
            try clear hfz103_1
            try clear hfz109_0
            try clear hfz109_1
            try clear hfz114_0
            try clear hfz114_1
            try clear hfz118_0
            try clear hfz118_1
            try clear hfz126_0
            try clear hfz126_1
            try clear hfz132_0
            try clear hfz132_1
            try clear hfz145_0
            try clear hfz145_1
            try clear hfz151_0
            try clear hfz151_1
            try clear hfz15_0
            try clear hfz15_1
            try clear hfz161_0
            try clear hfz161_1
            try clear hfz166_0
            try clear hfz166_1
            try clear hfz167_0
            try clear hfz167_1
            try clear hfz17_0
            try clear hfz17_1
            try clear hfz23_0
            try clear hfz23_1
            try clear hfz24_0
            try clear hfz24_1
            try clear hfz25_0
            try clear hfz25_1
            try clear hfz32_0
            try clear hfz32_1
            try clear hfz33_0
            try clear hfz33_1
            try clear hfz34_0
            try clear hfz34_1
            try clear hfz42_0
            try clear hfz42_1
            try clear hfz43_0
            try clear hfz43_1
            try clear hfz44_0
            try clear hfz44_1
            try clear hfz53_0
            try clear hfz53_1
            try clear hfz64_0
            try clear hfz64_1
            try clear hfz70_0
            try clear hfz70_1
            try clear hfz80_0
            try clear hfz80_1
            try clear hfz86_0
            try clear hfz86_1
            try clear hfz91_0
            try clear hfz91_1
            try clear hfz95_0
            try clear hfz95_1
            try clear p2
            obtain ⟨kq, x93_137, rfl, HA, HJ137, BK393, BK394, BK395, BK399, BK403, BK407, BK411, BK416, HB⟩ := hcut
            cases kq with
            | zero => exact absurd HA.out (by simp [soffitlaw01_DeciLaws.j1])
            | succ kj137 =>
              have H := HA.out
              clear HA
              simp only [soffitlaw01_DeciLaws.j1] at H
              have HC170 := Aside0.mk H
              clear H
              go_upto_if 93 with (fail)
              go_cut [] (fun wc => ∃ (kq : Nat), Aside0 (soffitlaw01_DeciLaws.j2 kq a3 a0_0 a0_1 = some r) ∧ Aside0 (kq ≤ kj137) ∧ Aside0 (wc.heap[gb393]? = some (.cells #[.int .i64 a0_0, .int .i64 a0_1] 23 (0, 0))) ∧ Aside0 (wc.heap[gb394]? = some (.cells #[.int .i64 a1_0, .int .i64 a1_1] 23 (0, 0))) ∧ Aside0 (wc.heap[gb395]? = some (.cells #[.int .i64 a2_0, .int .i64 a2_1] 23 (0, 0))) ∧ Aside0 (wc.heap[gb399]? = some (.cells #[.int .i64 t396, .int .i64 t397] 23 (0, 0))) ∧ Aside0 (wc.heap[gb403]? = some (.cells #[.int .i64 t400, .int .i64 t401] 23 (0, 0))) ∧ Aside0 (wc.heap[gb407]? = some (.cells #[.int .i64 t404, .int .i64 t405] 23 (0, 0))) ∧ Aside0 (wc.heap[gb411]? = some (.cells #[.int .i64 t408, .int .i64 t409] 23 (0, 0))) ∧ Aside0 (wc.heap[gb416]? = some (.cells #[.int .i64 t413, .int .i64 t414] 23 (0, 0))) ∧ Aside0 (Below w.heap.size w wc))
              case first =>
                have H := HC170.out
                clear HC170
                by_cases c171 : x93_137 = true
                · subst c171
                  have H1 : ((deci_Compare.f kj137 t396 t397 t413 t414).bind fun bt419 => (if bt419.2 = 0 then (if bt419.1 = t417 then (soffitlaw01_DeciLaws.j2 kj137 a3 a0_0 a0_1) else (some false)) else (some false))) = some r := by rw [if_pos rfl] at H; exact H
                  clear H
                  have H := H1
                  clear H1
                  replace H := Option.bind_eq_some_iff.mp H
                  obtain ⟨⟨t419, t420⟩, A1720, H⟩ := H
                  replace H : (if t420 = 0 then (if t419 = t417 then (soffitlaw01_DeciLaws.j2 kj137 a3 a0_0 a0_1) else (some false)) else (some false)) = some r := H
                  have A172 := Aside0.mk A1720
                  clear A1720
                  by_cases c173 : t420 = 0
                  · rw [if_pos c173] at H
                    have c173b0 : (t420 == 0) = true := beq_iff_eq.mpr c173
                    have c173b1 : (t420 != 0) = false := bne_eq_false_iff_eq.mpr c173
                    clear c173
                    (first | rw [c173b0] | (simp only [i64_w, i32_w]; rw [c173b0]) | skip)
                    by_cases c174 : t419 = t417
                    · rw [if_pos c174] at H
                      have c174b0 : (t419 == t417) = true := beq_iff_eq.mpr c174
                      have c174b1 : (t419 != t417) = false := bne_eq_false_iff_eq.mpr c174
                      clear c174
                      have H' := Aside0.mk H
                      clear H
                      have hnb175 := NB399_393.out
                      have hnc175 := NB393_399.out
                      have hnb176 := NB399_394.out
                      have hnc176 := NB394_399.out
                      have hnb177 := NB399_395.out
                      have hnc177 := NB395_399.out
                      have hnb178 := NB399_403.out
                      have hnc178 := NB403_399.out
                      have hnb179 := NB399_407.out
                      have hnc179 := NB407_399.out
                      have hnb180 := NB399_411.out
                      have hnc180 := NB411_399.out
                      have hnb181 := NB399_416.out
                      have hnc181 := NB416_399.out
                      have hcz182_0 : wc.cell? ⟨gb399, 0, none⟩ = some (.int .i64 t396) := (blk_cell BK399.out 0).trans rfl
                      have hcz182_1 : wc.cell? ⟨gb399, 1, none⟩ = some (.int .i64 t397) := (blk_cell BK399.out 1).trans rfl
                      have hfz182_0 := blk_frozen BK399.out 0
                      have hfz182_1 := blk_frozen BK399.out 1
                      have hnb183 := NB416_393.out
                      have hnc183 := NB393_416.out
                      have hnb184 := NB416_394.out
                      have hnc184 := NB394_416.out
                      have hnb185 := NB416_395.out
                      have hnc185 := NB395_416.out
                      have hnb186 := NB416_403.out
                      have hnc186 := NB403_416.out
                      have hnb187 := NB416_407.out
                      have hnc187 := NB407_416.out
                      have hnb188 := NB416_411.out
                      have hnc188 := NB411_416.out
                      have hcz189_0 : wc.cell? ⟨gb416, 0, none⟩ = some (.int .i64 t413) := (blk_cell BK416.out 0).trans rfl
                      have hcz189_1 : wc.cell? ⟨gb416, 1, none⟩ = some (.int .i64 t414) := (blk_cell BK416.out 1).trans rfl
                      have hfz189_0 := blk_frozen BK416.out 0
                      have hfz189_1 := blk_frozen BK416.out 1
                      go_wp2_with (first | ((with_reducible refine gate_callee (f := 25) rfl ?_); refine goesL_ (some 97) rfl rfl Tryd.func25 (by kernel_rfl) rfl #[.agg #[.int .i64 t396, .int .i64 t397], .agg #[.int .i64 t413, .int .i64 t414]] rfl (by (try simp only [List.map_toArray, List.map_cons, List.map_nil]); first | done | rfl | (simp only [List.length_drop, List.length_take]; rfl)) ?_; (with_reducible refine (deci_Compare.calls kj137 t396 t397 t413 t414 t419 t420 _ A172.out).mono ?_); rintro e w190 ⟨rfl, hb⟩; refine ⟨_, rfl, ?_⟩; have n0_ := Aside0.mk (blk_below (g := gb393) (o := .cells #[.int .i64 a0_0, .int .i64 a0_1] 23 (0, 0)) (by (with_reducible repeat (first | refine blk_drewN ?_ _ | refine blk_drew ?_ | refine blk_alloc ?_ _)); exact BK393.out) hb); have n1_ := Aside0.mk (blk_below (g := gb394) (o := .cells #[.int .i64 a1_0, .int .i64 a1_1] 23 (0, 0)) (by (with_reducible repeat (first | refine blk_drewN ?_ _ | refine blk_drew ?_ | refine blk_alloc ?_ _)); exact BK394.out) hb); have n2_ := Aside0.mk (blk_below (g := gb395) (o := .cells #[.int .i64 a2_0, .int .i64 a2_1] 23 (0, 0)) (by (with_reducible repeat (first | refine blk_drewN ?_ _ | refine blk_drew ?_ | refine blk_alloc ?_ _)); exact BK395.out) hb); have n3_ := Aside0.mk (blk_below (g := gb399) (o := .cells #[.int .i64 t396, .int .i64 t397] 23 (0, 0)) (by (with_reducible repeat (first | refine blk_drewN ?_ _ | refine blk_drew ?_ | refine blk_alloc ?_ _)); exact BK399.out) hb); have n4_ := Aside0.mk (blk_below (g := gb403) (o := .cells #[.int .i64 t400, .int .i64 t401] 23 (0, 0)) (by (with_reducible repeat (first | refine blk_drewN ?_ _ | refine blk_drew ?_ | refine blk_alloc ?_ _)); exact BK403.out) hb); have n5_ := Aside0.mk (blk_below (g := gb407) (o := .cells #[.int .i64 t404, .int .i64 t405] 23 (0, 0)) (by (with_reducible repeat (first | refine blk_drewN ?_ _ | refine blk_drew ?_ | refine blk_alloc ?_ _)); exact BK407.out) hb); have n6_ := Aside0.mk (blk_below (g := gb411) (o := .cells #[.int .i64 t408, .int .i64 t409] 23 (0, 0)) (by (with_reducible repeat (first | refine blk_drewN ?_ _ | refine blk_drew ?_ | refine blk_alloc ?_ _)); exact BK411.out) hb); have n7_ := Aside0.mk (blk_below (g := gb416) (o := .cells #[.int .i64 t413, .int .i64 t414] 23 (0, 0)) (by (with_reducible repeat (first | refine blk_drewN ?_ _ | refine blk_drew ?_ | refine blk_alloc ?_ _)); exact BK416.out) hb); have n8_ := Aside0.mk (below_step (by repeat (first | (with_reducible first | exact HB.out | apply below_alloc | apply pw_below_drewN | apply below_drew1 | refine below_set ?_ GE393.out | refine below_set ?_ GE394.out | refine below_set ?_ GE395.out | refine below_set ?_ GE399.out | refine below_set ?_ GE403.out | refine below_set ?_ GE407.out | refine below_set ?_ GE411.out | refine below_set ?_ GE416.out) | exact HB.out)) hb); clear BK393; clear BK394; clear BK395; clear BK399; clear BK403; clear BK407; clear BK411; clear BK416; clear HB; have BK393 := n0_; have BK394 := n1_; have BK395 := n2_; have BK399 := n3_; have BK403 := n4_; have BK407 := n5_; have BK411 := n6_; have BK416 := n7_; have HB := n8_; clear n0_ n1_ n2_ n3_ n4_ n5_ n6_ n7_ n8_; (try clear hb); (try clear hb2); (try clear hk); (try clear hi)))
                      go_meet
                      case rel => exact ⟨_, H', ⟨by have := HJ8.out; have := HJ137.out; first | omega | exact Nat.le_refl _⟩, ⟨by (with_reducible repeat (first | refine blk_drewN ?_ _ | refine blk_drew ?_ | refine blk_alloc ?_ _)); exact BK393.out⟩, ⟨by (with_reducible repeat (first | refine blk_drewN ?_ _ | refine blk_drew ?_ | refine blk_alloc ?_ _)); exact BK394.out⟩, ⟨by (with_reducible repeat (first | refine blk_drewN ?_ _ | refine blk_drew ?_ | refine blk_alloc ?_ _)); exact BK395.out⟩, ⟨by (with_reducible repeat (first | refine blk_drewN ?_ _ | refine blk_drew ?_ | refine blk_alloc ?_ _)); exact BK399.out⟩, ⟨by (with_reducible repeat (first | refine blk_drewN ?_ _ | refine blk_drew ?_ | refine blk_alloc ?_ _)); exact BK403.out⟩, ⟨by (with_reducible repeat (first | refine blk_drewN ?_ _ | refine blk_drew ?_ | refine blk_alloc ?_ _)); exact BK407.out⟩, ⟨by (with_reducible repeat (first | refine blk_drewN ?_ _ | refine blk_drew ?_ | refine blk_alloc ?_ _)); exact BK411.out⟩, ⟨by (with_reducible repeat (first | refine blk_drewN ?_ _ | refine blk_drew ?_ | refine blk_alloc ?_ _)); exact BK416.out⟩, ⟨by repeat (first | (with_reducible first | exact HB.out | apply below_alloc | apply pw_below_drewN | apply below_drew1 | refine below_set ?_ GE393.out | refine below_set ?_ GE394.out | refine below_set ?_ GE395.out | refine below_set ?_ GE399.out | refine below_set ?_ GE403.out | refine below_set ?_ GE407.out | refine below_set ?_ GE411.out | refine below_set ?_ GE416.out) | exact HB.out)⟩⟩
                    · rw [if_neg c174] at H
                      have c174b0 : (t419 == t417) = false := beq_eq_false_iff_ne.mpr c174
                      have c174b1 : (t419 != t417) = true := bne_iff_ne.mpr c174
                      exact absurd HR.out (by rw [← Option.some.inj H]; simp)
                  · rw [if_neg c173] at H
                    have c173b0 : (t420 == 0) = false := beq_eq_false_iff_ne.mpr c173
                    have c173b1 : (t420 != 0) = true := bne_iff_ne.mpr c173
                    (first | rw [c173b0] | (simp only [i64_w, i32_w]; rw [c173b0]) | skip)
                    exact absurd HR.out (by rw [← Option.some.inj H]; simp)
                · replace c171 := Bool.eq_false_iff.mpr c171
                  subst c171
                  have H1 : (soffitlaw01_DeciLaws.j2 kj137 a3 a0_0 a0_1) = some r := by rw [if_neg (show ¬ (false = true) by decide)] at H; exact H
                  clear H
                  have H := H1
                  clear H1
                  have H' := Aside0.mk H
                  clear H
                  go_wp2
                  go_meet
                  case rel => exact ⟨_, H', ⟨by have := HJ8.out; have := HJ137.out; first | omega | exact Nat.le_refl _⟩, ⟨by (with_reducible repeat (first | refine blk_drewN ?_ _ | refine blk_drew ?_ | refine blk_alloc ?_ _)); exact BK393.out⟩, ⟨by (with_reducible repeat (first | refine blk_drewN ?_ _ | refine blk_drew ?_ | refine blk_alloc ?_ _)); exact BK394.out⟩, ⟨by (with_reducible repeat (first | refine blk_drewN ?_ _ | refine blk_drew ?_ | refine blk_alloc ?_ _)); exact BK395.out⟩, ⟨by (with_reducible repeat (first | refine blk_drewN ?_ _ | refine blk_drew ?_ | refine blk_alloc ?_ _)); exact BK399.out⟩, ⟨by (with_reducible repeat (first | refine blk_drewN ?_ _ | refine blk_drew ?_ | refine blk_alloc ?_ _)); exact BK403.out⟩, ⟨by (with_reducible repeat (first | refine blk_drewN ?_ _ | refine blk_drew ?_ | refine blk_alloc ?_ _)); exact BK407.out⟩, ⟨by (with_reducible repeat (first | refine blk_drewN ?_ _ | refine blk_drew ?_ | refine blk_alloc ?_ _)); exact BK411.out⟩, ⟨by (with_reducible repeat (first | refine blk_drewN ?_ _ | refine blk_drew ?_ | refine blk_alloc ?_ _)); exact BK416.out⟩, ⟨by repeat (first | (with_reducible first | exact HB.out | apply below_alloc | apply pw_below_drewN | apply below_drew1 | refine below_set ?_ GE393.out | refine below_set ?_ GE394.out | refine below_set ?_ GE395.out | refine below_set ?_ GE399.out | refine below_set ?_ GE403.out | refine below_set ?_ GE407.out | refine below_set ?_ GE411.out | refine below_set ?_ GE416.out) | exact HB.out)⟩⟩
              case rest =>
                clear HC170
                try clear c1
                try clear c2
                try clear p2
                try clear c3
                try clear c4
                try clear c5
                try clear c6
                try clear c7
                try clear c8
                try clear c9
                try clear c10
                try clear c11
                try clear c12
                try clear c13
                try clear c14
                try clear c15
                try clear c16
                try clear c17
                try clear c18
                try clear c20
                try clear c21
                try clear c22
                try clear c24
                try clear c25
                try clear c28
                try clear c29
                try clear c30
                try clear c31
                try clear c37
                try clear c38
                try clear c39
                try clear c40
                try clear c41
                try clear c47
                try clear c48
                try clear c49
                try clear c50
                try clear c51
                try clear c52
                try clear c55
                try clear c56
                try clear c56b0
                try clear c58
                try clear c59
                try clear c60
                try clear c61
                try clear c62
                try clear c63
                try clear c65
                try clear c66
                try clear c67
                try clear c68
                try clear c69
                try clear c71
                try clear c71b0
                try clear c71b1
                try clear c72
                try clear c72b0
                try clear c74
                try clear c75
                try clear c76
                try clear c77
                try clear c78
                try clear c79
                try clear c81
                try clear c82
                try clear c83
                try clear c84
                try clear c85
                try clear c87
                try clear c88
                try clear c89
                try clear c90
                try clear c92
                try clear c93
                try clear c94
                try clear c97
                try clear c98
                try clear c99
                try clear c100
                try clear c101
                try clear c102
                try clear c104
                try clear c105
                try clear c106
                try clear c107
                try clear c108
                try clear c110
                try clear c111
                try clear c112
                try clear c113
                try clear c115
                try clear c116
                try clear c117
                try clear c120
                try clear c121
                try clear c122
                try clear c123
                try clear c124
                try clear c125
                try clear c127
                try clear c128
                try clear c129
                try clear c130
                try clear c131
                try clear c134
                try clear c135
                try clear c135b0
                try clear c135b1
                try clear c139
                try clear c140
                try clear c141
                try clear c142
                try clear c143
                try clear c144
                try clear c146
                try clear c147
                try clear c148
                try clear c149
                try clear c150
                try clear c154
                try clear c155
                try clear c156
                try clear c157
                try clear c158
                try clear c159
                try clear c160
                try clear c162
                try clear c163
                try clear c164
                try clear c165
                try clear c169
                try clear c169b0
                try clear c169b1
                try clear c171
                try clear c173
                try clear c173b0
                try clear c173b1
                try clear c174
                try clear c174b0
                try clear c174b1
                try clear c175
                try clear c176
                try clear c177
                try clear c178
                try clear c179
                try clear c180
                try clear c181
                try clear c183
                try clear c184
                try clear c185
                try clear c186
                try clear c187
                try clear c188
                try clear hcz103_0
                try clear hcz103_1
                try clear hcz109_0
                try clear hcz109_1
                try clear hcz114_0
                try clear hcz114_1
                try clear hcz118_0
                try clear hcz118_1
                try clear hcz126_0
                try clear hcz126_1
                try clear hcz132_0
                try clear hcz132_1
                try clear hcz145_0
                try clear hcz145_1
                try clear hcz151_0
                try clear hcz151_1
                try clear hcz15_0
                try clear hcz15_1
                try clear hcz161_0
                try clear hcz161_1
                try clear hcz166_0
                try clear hcz166_1
                try clear hcz167_0
                try clear hcz167_1
                try clear hcz17_0
                try clear hcz17_1
                try clear hcz182_0
                try clear hcz182_1
                try clear hcz189_0
                try clear hcz189_1
                try clear hcz23_0
                try clear hcz23_1
                try clear hcz24_0
                try clear hcz24_1
                try clear hcz25_0
                try clear hcz25_1
                try clear hcz32_0
                try clear hcz32_1
                try clear hcz33_0
                try clear hcz33_1
                try clear hcz34_0
                try clear hcz34_1
                try clear hcz42_0
                try clear hcz42_1
                try clear hcz43_0
                try clear hcz43_1
                try clear hcz44_0
                try clear hcz44_1
                try clear hcz53_0
                try clear hcz53_1
                try clear hcz64_0
                try clear hcz64_1
                try clear hcz70_0
                try clear hcz70_1
                try clear hcz80_0
                try clear hcz80_1
                try clear hcz86_0
                try clear hcz86_1
                try clear hcz91_0
                try clear hcz91_1
                try clear hcz95_0
                try clear hcz95_1
                try clear hfz103_0
                try clear hfz103_1
                try clear hfz109_0
                try clear hfz109_1
                try clear hfz114_0
                try clear hfz114_1
                try clear hfz118_0
                try clear hfz118_1
                try clear hfz126_0
                try clear hfz126_1
                try clear hfz132_0
                try clear hfz132_1
                try clear hfz145_0
                try clear hfz145_1
                try clear hfz151_0
                try clear hfz151_1
                try clear hfz15_0
                try clear hfz15_1
                try clear hfz161_0
                try clear hfz161_1
                try clear hfz166_0
                try clear hfz166_1
                try clear hfz167_0
                try clear hfz167_1
                try clear hfz17_0
                try clear hfz17_1
                try clear hfz182_0
                try clear hfz182_1
                try clear hfz189_0
                try clear hfz189_1
                try clear hfz23_0
                try clear hfz23_1
                try clear hfz24_0
                try clear hfz24_1
                try clear hfz25_0
                try clear hfz25_1
                try clear hfz32_0
                try clear hfz32_1
                try clear hfz33_0
                try clear hfz33_1
                try clear hfz34_0
                try clear hfz34_1
                try clear hfz42_0
                try clear hfz42_1
                try clear hfz43_0
                try clear hfz43_1
                try clear hfz44_0
                try clear hfz44_1
                try clear hfz53_0
                try clear hfz53_1
                try clear hfz64_0
                try clear hfz64_1
                try clear hfz70_0
                try clear hfz70_1
                try clear hfz80_0
                try clear hfz80_1
                try clear hfz86_0
                try clear hfz86_1
                try clear hfz91_0
                try clear hfz91_1
                try clear hfz95_0
                try clear hfz95_1
                try clear p2
                obtain ⟨kq, HA, HJ169, BK393, BK394, BK395, BK399, BK403, BK407, BK411, BK416, HB⟩ := hcut
                cases kq with
                | zero => exact absurd HA.out (by simp [soffitlaw01_DeciLaws.j2])
                | succ kj169 =>
                  have H := HA.out
                  clear HA
                  simp only [soffitlaw01_DeciLaws.j2] at H
                  have HC191 := Aside0.mk H
                  clear H
                  go_upto_region 16 with (first | ((with_reducible refine gate_dst (N := 23) rfl ?_); refine box_event ?hg (N := 23) ?hd (cs := #[.int .i64 0, .int .i64 0]) (t := 23) ?hr ?_; (case hd => rfl); (case hg => rfl); (case hr => first | (go_simp; done) | (go_simp; rfl)); intro gb421 hg w192 hbox hb; have n0_ := Aside0.mk (blk_below (g := gb393) (o := .cells #[.int .i64 a0_0, .int .i64 a0_1] 23 (0, 0)) (by (with_reducible repeat (first | refine blk_drewN ?_ _ | refine blk_drew ?_ | refine blk_alloc ?_ _)); exact BK393.out) hb); have n1_ := Aside0.mk (blk_below (g := gb394) (o := .cells #[.int .i64 a1_0, .int .i64 a1_1] 23 (0, 0)) (by (with_reducible repeat (first | refine blk_drewN ?_ _ | refine blk_drew ?_ | refine blk_alloc ?_ _)); exact BK394.out) hb); have n2_ := Aside0.mk (blk_below (g := gb395) (o := .cells #[.int .i64 a2_0, .int .i64 a2_1] 23 (0, 0)) (by (with_reducible repeat (first | refine blk_drewN ?_ _ | refine blk_drew ?_ | refine blk_alloc ?_ _)); exact BK395.out) hb); have n3_ := Aside0.mk (blk_below (g := gb399) (o := .cells #[.int .i64 t396, .int .i64 t397] 23 (0, 0)) (by (with_reducible repeat (first | refine blk_drewN ?_ _ | refine blk_drew ?_ | refine blk_alloc ?_ _)); exact BK399.out) hb); have n4_ := Aside0.mk (blk_below (g := gb403) (o := .cells #[.int .i64 t400, .int .i64 t401] 23 (0, 0)) (by (with_reducible repeat (first | refine blk_drewN ?_ _ | refine blk_drew ?_ | refine blk_alloc ?_ _)); exact BK403.out) hb); have n5_ := Aside0.mk (blk_below (g := gb407) (o := .cells #[.int .i64 t404, .int .i64 t405] 23 (0, 0)) (by (with_reducible repeat (first | refine blk_drewN ?_ _ | refine blk_drew ?_ | refine blk_alloc ?_ _)); exact BK407.out) hb); have n6_ := Aside0.mk (blk_below (g := gb411) (o := .cells #[.int .i64 t408, .int .i64 t409] 23 (0, 0)) (by (with_reducible repeat (first | refine blk_drewN ?_ _ | refine blk_drew ?_ | refine blk_alloc ?_ _)); exact BK411.out) hb); have n7_ := Aside0.mk (blk_below (g := gb416) (o := .cells #[.int .i64 t413, .int .i64 t414] 23 (0, 0)) (by (with_reducible repeat (first | refine blk_drewN ?_ _ | refine blk_drew ?_ | refine blk_alloc ?_ _)); exact BK416.out) hb); have n8_ := Aside0.mk (below_step (by repeat (first | (with_reducible first | exact HB.out | apply below_alloc | apply pw_below_drewN | apply below_drew1 | refine below_set ?_ GE393.out | refine below_set ?_ GE394.out | refine below_set ?_ GE395.out | refine below_set ?_ GE399.out | refine below_set ?_ GE403.out | refine below_set ?_ GE407.out | refine below_set ?_ GE411.out | refine below_set ?_ GE416.out) | exact HB.out)) hb); have n9_ := Aside0.mk (hbox); have n10_ := Aside0.mk ((by rw [hg]; exact (below_size (by repeat (first | (with_reducible first | exact HB.out | apply below_alloc | apply pw_below_drewN | apply below_drew1 | refine below_set ?_ GE393.out | refine below_set ?_ GE394.out | refine below_set ?_ GE395.out | refine below_set ?_ GE399.out | refine below_set ?_ GE403.out | refine below_set ?_ GE407.out | refine below_set ?_ GE411.out | refine below_set ?_ GE416.out) | exact HB.out))) : w.heap.size ≤ gb421)); have n11_ := Aside0.mk ((by rw [hg]; exact (below_size (by repeat (first | (with_reducible first | exact HB.out | apply below_alloc | apply pw_below_drewN | apply below_drew1 | refine below_set ?_ GE393.out | refine below_set ?_ GE394.out | refine below_set ?_ GE395.out | refine below_set ?_ GE399.out | refine below_set ?_ GE403.out | refine below_set ?_ GE407.out | refine below_set ?_ GE411.out | refine below_set ?_ GE416.out) | exact HB.out))) : w.heap.size ≤ gb421)); have n12_ := Aside0.mk ((by rw [hg]; exact Nat.ne_of_lt (blk_lt (g := gb393) (o := .cells #[.int .i64 a0_0, .int .i64 a0_1] 23 (0, 0)) (by (with_reducible repeat (first | refine blk_drewN ?_ _ | refine blk_drew ?_ | refine blk_alloc ?_ _)); exact BK393.out)) : gb393 ≠ gb421)); have n13_ := Aside0.mk ((by rw [hg]; exact Nat.ne_of_gt (blk_lt (g := gb393) (o := .cells #[.int .i64 a0_0, .int .i64 a0_1] 23 (0, 0)) (by (with_reducible repeat (first | refine blk_drewN ?_ _ | refine blk_drew ?_ | refine blk_alloc ?_ _)); exact BK393.out)) : gb421 ≠ gb393)); have n14_ := Aside0.mk ((by rw [hg]; exact Nat.ne_of_lt (blk_lt (g := gb394) (o := .cells #[.int .i64 a1_0, .int .i64 a1_1] 23 (0, 0)) (by (with_reducible repeat (first | refine blk_drewN ?_ _ | refine blk_drew ?_ | refine blk_alloc ?_ _)); exact BK394.out)) : gb394 ≠ gb421)); have n15_ := Aside0.mk ((by rw [hg]; exact Nat.ne_of_gt (blk_lt (g := gb394) (o := .cells #[.int .i64 a1_0, .int .i64 a1_1] 23 (0, 0)) (by (with_reducible repeat (first | refine blk_drewN ?_ _ | refine blk_drew ?_ | refine blk_alloc ?_ _)); exact BK394.out)) : gb421 ≠ gb394)); have n16_ := Aside0.mk ((by rw [hg]; exact Nat.ne_of_lt (blk_lt (g := gb395) (o := .cells #[.int .i64 a2_0, .int .i64 a2_1] 23 (0, 0)) (by (with_reducible repeat (first | refine blk_drewN ?_ _ | refine blk_drew ?_ | refine blk_alloc ?_ _)); exact BK395.out)) : gb395 ≠ gb421)); have n17_ := Aside0.mk ((by rw [hg]; exact Nat.ne_of_gt (blk_lt (g := gb395) (o := .cells #[.int .i64 a2_0, .int .i64 a2_1] 23 (0, 0)) (by (with_reducible repeat (first | refine blk_drewN ?_ _ | refine blk_drew ?_ | refine blk_alloc ?_ _)); exact BK395.out)) : gb421 ≠ gb395)); have n18_ := Aside0.mk ((by rw [hg]; exact Nat.ne_of_lt (blk_lt (g := gb399) (o := .cells #[.int .i64 t396, .int .i64 t397] 23 (0, 0)) (by (with_reducible repeat (first | refine blk_drewN ?_ _ | refine blk_drew ?_ | refine blk_alloc ?_ _)); exact BK399.out)) : gb399 ≠ gb421)); have n19_ := Aside0.mk ((by rw [hg]; exact Nat.ne_of_gt (blk_lt (g := gb399) (o := .cells #[.int .i64 t396, .int .i64 t397] 23 (0, 0)) (by (with_reducible repeat (first | refine blk_drewN ?_ _ | refine blk_drew ?_ | refine blk_alloc ?_ _)); exact BK399.out)) : gb421 ≠ gb399)); have n20_ := Aside0.mk ((by rw [hg]; exact Nat.ne_of_lt (blk_lt (g := gb403) (o := .cells #[.int .i64 t400, .int .i64 t401] 23 (0, 0)) (by (with_reducible repeat (first | refine blk_drewN ?_ _ | refine blk_drew ?_ | refine blk_alloc ?_ _)); exact BK403.out)) : gb403 ≠ gb421)); have n21_ := Aside0.mk ((by rw [hg]; exact Nat.ne_of_gt (blk_lt (g := gb403) (o := .cells #[.int .i64 t400, .int .i64 t401] 23 (0, 0)) (by (with_reducible repeat (first | refine blk_drewN ?_ _ | refine blk_drew ?_ | refine blk_alloc ?_ _)); exact BK403.out)) : gb421 ≠ gb403)); have n22_ := Aside0.mk ((by rw [hg]; exact Nat.ne_of_lt (blk_lt (g := gb407) (o := .cells #[.int .i64 t404, .int .i64 t405] 23 (0, 0)) (by (with_reducible repeat (first | refine blk_drewN ?_ _ | refine blk_drew ?_ | refine blk_alloc ?_ _)); exact BK407.out)) : gb407 ≠ gb421)); have n23_ := Aside0.mk ((by rw [hg]; exact Nat.ne_of_gt (blk_lt (g := gb407) (o := .cells #[.int .i64 t404, .int .i64 t405] 23 (0, 0)) (by (with_reducible repeat (first | refine blk_drewN ?_ _ | refine blk_drew ?_ | refine blk_alloc ?_ _)); exact BK407.out)) : gb421 ≠ gb407)); have n24_ := Aside0.mk ((by rw [hg]; exact Nat.ne_of_lt (blk_lt (g := gb411) (o := .cells #[.int .i64 t408, .int .i64 t409] 23 (0, 0)) (by (with_reducible repeat (first | refine blk_drewN ?_ _ | refine blk_drew ?_ | refine blk_alloc ?_ _)); exact BK411.out)) : gb411 ≠ gb421)); have n25_ := Aside0.mk ((by rw [hg]; exact Nat.ne_of_gt (blk_lt (g := gb411) (o := .cells #[.int .i64 t408, .int .i64 t409] 23 (0, 0)) (by (with_reducible repeat (first | refine blk_drewN ?_ _ | refine blk_drew ?_ | refine blk_alloc ?_ _)); exact BK411.out)) : gb421 ≠ gb411)); have n26_ := Aside0.mk ((by rw [hg]; exact Nat.ne_of_lt (blk_lt (g := gb416) (o := .cells #[.int .i64 t413, .int .i64 t414] 23 (0, 0)) (by (with_reducible repeat (first | refine blk_drewN ?_ _ | refine blk_drew ?_ | refine blk_alloc ?_ _)); exact BK416.out)) : gb416 ≠ gb421)); have n27_ := Aside0.mk ((by rw [hg]; exact Nat.ne_of_gt (blk_lt (g := gb416) (o := .cells #[.int .i64 t413, .int .i64 t414] 23 (0, 0)) (by (with_reducible repeat (first | refine blk_drewN ?_ _ | refine blk_drew ?_ | refine blk_alloc ?_ _)); exact BK416.out)) : gb421 ≠ gb416)); clear BK393; clear BK394; clear BK395; clear BK399; clear BK403; clear BK407; clear BK411; clear BK416; clear HB; have BK393 := n0_; have BK394 := n1_; have BK395 := n2_; have BK399 := n3_; have BK403 := n4_; have BK407 := n5_; have BK411 := n6_; have BK416 := n7_; have HB := n8_; have BK421 := n9_; have GW421 := n10_; have GE421 := n11_; have NB393_421 := n12_; have NB421_393 := n13_; have NB394_421 := n14_; have NB421_394 := n15_; have NB395_421 := n16_; have NB421_395 := n17_; have NB399_421 := n18_; have NB421_399 := n19_; have NB403_421 := n20_; have NB421_403 := n21_; have NB407_421 := n22_; have NB421_407 := n23_; have NB411_421 := n24_; have NB421_411 := n25_; have NB416_421 := n26_; have NB421_416 := n27_; clear n0_ n1_ n2_ n3_ n4_ n5_ n6_ n7_ n8_ n9_ n10_ n11_ n12_ n13_ n14_ n15_ n16_ n17_ n18_ n19_ n20_ n21_ n22_ n23_ n24_ n25_ n26_ n27_; clear hb hbox hg; have hnb193 := NB421_393.out; have hnc193 := NB393_421.out; have hnb194 := NB421_394.out; have hnc194 := NB394_421.out; have hnb195 := NB421_395.out; have hnc195 := NB395_421.out; have hnb196 := NB421_399.out; have hnc196 := NB399_421.out; have hnb197 := NB421_403.out; have hnc197 := NB403_421.out; have hnb198 := NB421_407.out; have hnc198 := NB407_421.out; have hnb199 := NB421_411.out; have hnc199 := NB411_421.out; have hnb200 := NB421_416.out; have hnc200 := NB416_421.out; have hcz201_0 : w192.cell? ⟨gb421, 0, none⟩ = some (.int .i64 0) := (blk_cell BK421.out 0).trans rfl; have hcz201_1 : w192.cell? ⟨gb421, 1, none⟩ = some (.int .i64 0) := (blk_cell BK421.out 1).trans rfl; have hfz201_0 := blk_frozen BK421.out 0; have hfz201_1 := blk_frozen BK421.out 1))
                  (try simp only [Act.put, List.setIfInBounds_toArray, List.set_cons_zero, List.set_cons_succ])
                  go_cut [116] (fun v116 wc => ∃ (kq : Nat) (x116_190 : Bool), v116 = .bool x116_190 ∧ Aside0 (soffitlaw01_DeciLaws.j3 kq x116_190 a0_0 a0_1 (wrap64 (a3)) 0 = some r) ∧ Aside0 (kq ≤ kj169) ∧ Aside0 (wc.heap[gb393]? = some (.cells #[.int .i64 a0_0, .int .i64 a0_1] 23 (0, 0))) ∧ Aside0 (wc.heap[gb394]? = some (.cells #[.int .i64 a1_0, .int .i64 a1_1] 23 (0, 0))) ∧ Aside0 (wc.heap[gb395]? = some (.cells #[.int .i64 a2_0, .int .i64 a2_1] 23 (0, 0))) ∧ Aside0 (wc.heap[gb399]? = some (.cells #[.int .i64 t396, .int .i64 t397] 23 (0, 0))) ∧ Aside0 (wc.heap[gb403]? = some (.cells #[.int .i64 t400, .int .i64 t401] 23 (0, 0))) ∧ Aside0 (wc.heap[gb407]? = some (.cells #[.int .i64 t404, .int .i64 t405] 23 (0, 0))) ∧ Aside0 (wc.heap[gb411]? = some (.cells #[.int .i64 t408, .int .i64 t409] 23 (0, 0))) ∧ Aside0 (wc.heap[gb416]? = some (.cells #[.int .i64 t413, .int .i64 t414] 23 (0, 0))) ∧ Aside0 (wc.heap[gb421]? = some (.cells #[.int .i64 (wrap64 (a3)), .int .i64 0] 23 (0, 0))) ∧ Aside0 (Below w.heap.size w wc))
                  case first =>
                    have H := HC191.out
                    clear HC191
                    by_cases c202 : a3 = 0
                    · rw [if_pos c202] at H
                      have c202b0 : (a3 == 0) = true := beq_iff_eq.mpr c202
                      have c202b1 : (a3 != 0) = false := bne_eq_false_iff_eq.mpr c202
                      clear c202
                      (first | rw [c202b0] | (simp only [i64_w, i32_w]; rw [c202b0]) | skip)
                      have H' := Aside0.mk H
                      clear H
                      go_wp2
                      go_meet
                      case rel => exact ⟨_, (true), (by first | rfl | (simp; done) | (simp [*]; done)), H', ⟨by have := HJ8.out; have := HJ137.out; have := HJ169.out; first | omega | exact Nat.le_refl _⟩, ⟨by (with_reducible repeat (first | refine blk_drewN ?_ _ | refine blk_drew ?_ | refine blk_alloc ?_ _)); refine blk_far ?_ NB393_421.out _; (with_reducible repeat (first | refine blk_drewN ?_ _ | refine blk_drew ?_ | refine blk_alloc ?_ _)); refine blk_far ?_ NB393_421.out _; (with_reducible repeat (first | refine blk_drewN ?_ _ | refine blk_drew ?_ | refine blk_alloc ?_ _)); exact BK393.out⟩, ⟨by (with_reducible repeat (first | refine blk_drewN ?_ _ | refine blk_drew ?_ | refine blk_alloc ?_ _)); refine blk_far ?_ NB394_421.out _; (with_reducible repeat (first | refine blk_drewN ?_ _ | refine blk_drew ?_ | refine blk_alloc ?_ _)); refine blk_far ?_ NB394_421.out _; (with_reducible repeat (first | refine blk_drewN ?_ _ | refine blk_drew ?_ | refine blk_alloc ?_ _)); exact BK394.out⟩, ⟨by (with_reducible repeat (first | refine blk_drewN ?_ _ | refine blk_drew ?_ | refine blk_alloc ?_ _)); refine blk_far ?_ NB395_421.out _; (with_reducible repeat (first | refine blk_drewN ?_ _ | refine blk_drew ?_ | refine blk_alloc ?_ _)); refine blk_far ?_ NB395_421.out _; (with_reducible repeat (first | refine blk_drewN ?_ _ | refine blk_drew ?_ | refine blk_alloc ?_ _)); exact BK395.out⟩, ⟨by (with_reducible repeat (first | refine blk_drewN ?_ _ | refine blk_drew ?_ | refine blk_alloc ?_ _)); refine blk_far ?_ NB399_421.out _; (with_reducible repeat (first | refine blk_drewN ?_ _ | refine blk_drew ?_ | refine blk_alloc ?_ _)); refine blk_far ?_ NB399_421.out _; (with_reducible repeat (first | refine blk_drewN ?_ _ | refine blk_drew ?_ | refine blk_alloc ?_ _)); exact BK399.out⟩, ⟨by (with_reducible repeat (first | refine blk_drewN ?_ _ | refine blk_drew ?_ | refine blk_alloc ?_ _)); refine blk_far ?_ NB403_421.out _; (with_reducible repeat (first | refine blk_drewN ?_ _ | refine blk_drew ?_ | refine blk_alloc ?_ _)); refine blk_far ?_ NB403_421.out _; (with_reducible repeat (first | refine blk_drewN ?_ _ | refine blk_drew ?_ | refine blk_alloc ?_ _)); exact BK403.out⟩, ⟨by (with_reducible repeat (first | refine blk_drewN ?_ _ | refine blk_drew ?_ | refine blk_alloc ?_ _)); refine blk_far ?_ NB407_421.out _; (with_reducible repeat (first | refine blk_drewN ?_ _ | refine blk_drew ?_ | refine blk_alloc ?_ _)); refine blk_far ?_ NB407_421.out _; (with_reducible repeat (first | refine blk_drewN ?_ _ | refine blk_drew ?_ | refine blk_alloc ?_ _)); exact BK407.out⟩, ⟨by (with_reducible repeat (first | refine blk_drewN ?_ _ | refine blk_drew ?_ | refine blk_alloc ?_ _)); refine blk_far ?_ NB411_421.out _; (with_reducible repeat (first | refine blk_drewN ?_ _ | refine blk_drew ?_ | refine blk_alloc ?_ _)); refine blk_far ?_ NB411_421.out _; (with_reducible repeat (first | refine blk_drewN ?_ _ | refine blk_drew ?_ | refine blk_alloc ?_ _)); exact BK411.out⟩, ⟨by (with_reducible repeat (first | refine blk_drewN ?_ _ | refine blk_drew ?_ | refine blk_alloc ?_ _)); refine blk_far ?_ NB416_421.out _; (with_reducible repeat (first | refine blk_drewN ?_ _ | refine blk_drew ?_ | refine blk_alloc ?_ _)); refine blk_far ?_ NB416_421.out _; (with_reducible repeat (first | refine blk_drewN ?_ _ | refine blk_drew ?_ | refine blk_alloc ?_ _)); exact BK416.out⟩, ⟨by (with_reducible repeat (first | refine blk_drewN ?_ _ | refine blk_drew ?_ | refine blk_alloc ?_ _)); refine blk_put (cs := #[.int .i64 (wrap64 (a3)), .int .i64 0]) ?_ 1 _ rfl; (with_reducible repeat (first | refine blk_drewN ?_ _ | refine blk_drew ?_ | refine blk_alloc ?_ _)); refine blk_put (cs := #[.int .i64 0, .int .i64 0]) ?_ 0 _ rfl; (with_reducible repeat (first | refine blk_drewN ?_ _ | refine blk_drew ?_ | refine blk_alloc ?_ _)); exact BK421.out⟩, ⟨by repeat (first | (with_reducible first | exact HB.out | apply below_alloc | apply pw_below_drewN | apply below_drew1 | refine below_set ?_ GE393.out | refine below_set ?_ GE394.out | refine below_set ?_ GE395.out | refine below_set ?_ GE399.out | refine below_set ?_ GE403.out | refine below_set ?_ GE407.out | refine below_set ?_ GE411.out | refine below_set ?_ GE416.out | refine below_set ?_ GE421.out) | exact HB.out)⟩⟩
                    · rw [if_neg c202] at H
                      have c202b0 : (a3 == 0) = false := beq_eq_false_iff_ne.mpr c202
                      have c202b1 : (a3 != 0) = true := bne_iff_ne.mpr c202
                      (first | rw [c202b0] | (simp only [i64_w, i32_w]; rw [c202b0]) | skip)
                      replace H := Option.bind_eq_some_iff.mp H
                      obtain ⟨t422, A2030, H⟩ := H
                      replace H : (soffitlaw01_DeciLaws.j3 kj169 (!t422) a0_0 a0_1 (wrap64 (a3)) 0) = some r := H
                      have A203 := Aside0.mk A2030
                      clear A2030
                      have H' := Aside0.mk H
                      clear H
                      have hnb204 := NB421_393.out
                      have hnc204 := NB393_421.out
                      have hnb205 := NB421_394.out
                      have hnc205 := NB394_421.out
                      have hnb206 := NB421_395.out
                      have hnc206 := NB395_421.out
                      have hnb207 := NB421_399.out
                      have hnc207 := NB399_421.out
                      have hnb208 := NB421_403.out
                      have hnc208 := NB403_421.out
                      have hnb209 := NB421_407.out
                      have hnc209 := NB407_421.out
                      have hnb210 := NB421_411.out
                      have hnc210 := NB411_421.out
                      have hnb211 := NB421_416.out
                      have hnc211 := NB416_421.out
                      have hcz212_0 : w192.cell? ⟨gb421, 0, none⟩ = some (.int .i64 0) := (blk_cell BK421.out 0).trans rfl
                      have hcz212_1 : w192.cell? ⟨gb421, 1, none⟩ = some (.int .i64 0) := (blk_cell BK421.out 1).trans rfl
                      have hfz212_0 := blk_frozen BK421.out 0
                      have hfz212_1 := blk_frozen BK421.out 1
                      go_wp2_with (first | (go_at_call 13; (with_reducible refine (soffitref01_Sound.calls kj169 (wrap64 (a3)) 0 t422 _ A203.out).mono ?_); rintro e w213 ⟨rfl, hb⟩; have n0_ := Aside0.mk (blk_below (g := gb393) (o := .cells #[.int .i64 a0_0, .int .i64 a0_1] 23 (0, 0)) (by (with_reducible repeat (first | refine blk_drewN ?_ _ | refine blk_drew ?_ | refine blk_alloc ?_ _)); refine blk_far ?_ NB393_421.out _; (with_reducible repeat (first | refine blk_drewN ?_ _ | refine blk_drew ?_ | refine blk_alloc ?_ _)); refine blk_far ?_ NB393_421.out _; (with_reducible repeat (first | refine blk_drewN ?_ _ | refine blk_drew ?_ | refine blk_alloc ?_ _)); exact BK393.out) hb); have n1_ := Aside0.mk (blk_below (g := gb394) (o := .cells #[.int .i64 a1_0, .int .i64 a1_1] 23 (0, 0)) (by (with_reducible repeat (first | refine blk_drewN ?_ _ | refine blk_drew ?_ | refine blk_alloc ?_ _)); refine blk_far ?_ NB394_421.out _; (with_reducible repeat (first | refine blk_drewN ?_ _ | refine blk_drew ?_ | refine blk_alloc ?_ _)); refine blk_far ?_ NB394_421.out _; (with_reducible repeat (first | refine blk_drewN ?_ _ | refine blk_drew ?_ | refine blk_alloc ?_ _)); exact BK394.out) hb); have n2_ := Aside0.mk (blk_below (g := gb395) (o := .cells #[.int .i64 a2_0, .int .i64 a2_1] 23 (0, 0)) (by (with_reducible repeat (first | refine blk_drewN ?_ _ | refine blk_drew ?_ | refine blk_alloc ?_ _)); refine blk_far ?_ NB395_421.out _; (with_reducible repeat (first | refine blk_drewN ?_ _ | refine blk_drew ?_ | refine blk_alloc ?_ _)); refine blk_far ?_ NB395_421.out _; (with_reducible repeat (first | refine blk_drewN ?_ _ | refine blk_drew ?_ | refine blk_alloc ?_ _)); exact BK395.out) hb); have n3_ := Aside0.mk (blk_below (g := gb399) (o := .cells #[.int .i64 t396, .int .i64 t397] 23 (0, 0)) (by (with_reducible repeat (first | refine blk_drewN ?_ _ | refine blk_drew ?_ | refine blk_alloc ?_ _)); refine blk_far ?_ NB399_421.out _; (with_reducible repeat (first | refine blk_drewN ?_ _ | refine blk_drew ?_ | refine blk_alloc ?_ _)); refine blk_far ?_ NB399_421.out _; (with_reducible repeat (first | refine blk_drewN ?_ _ | refine blk_drew ?_ | refine blk_alloc ?_ _)); exact BK399.out) hb); have n4_ := Aside0.mk (blk_below (g := gb403) (o := .cells #[.int .i64 t400, .int .i64 t401] 23 (0, 0)) (by (with_reducible repeat (first | refine blk_drewN ?_ _ | refine blk_drew ?_ | refine blk_alloc ?_ _)); refine blk_far ?_ NB403_421.out _; (with_reducible repeat (first | refine blk_drewN ?_ _ | refine blk_drew ?_ | refine blk_alloc ?_ _)); refine blk_far ?_ NB403_421.out _; (with_reducible repeat (first | refine blk_drewN ?_ _ | refine blk_drew ?_ | refine blk_alloc ?_ _)); exact BK403.out) hb); have n5_ := Aside0.mk (blk_below (g := gb407) (o := .cells #[.int .i64 t404, .int .i64 t405] 23 (0, 0)) (by (with_reducible repeat (first | refine blk_drewN ?_ _ | refine blk_drew ?_ | refine blk_alloc ?_ _)); refine blk_far ?_ NB407_421.out _; (with_reducible repeat (first | refine blk_drewN ?_ _ | refine blk_drew ?_ | refine blk_alloc ?_ _)); refine blk_far ?_ NB407_421.out _; (with_reducible repeat (first | refine blk_drewN ?_ _ | refine blk_drew ?_ | refine blk_alloc ?_ _)); exact BK407.out) hb); have n6_ := Aside0.mk (blk_below (g := gb411) (o := .cells #[.int .i64 t408, .int .i64 t409] 23 (0, 0)) (by (with_reducible repeat (first | refine blk_drewN ?_ _ | refine blk_drew ?_ | refine blk_alloc ?_ _)); refine blk_far ?_ NB411_421.out _; (with_reducible repeat (first | refine blk_drewN ?_ _ | refine blk_drew ?_ | refine blk_alloc ?_ _)); refine blk_far ?_ NB411_421.out _; (with_reducible repeat (first | refine blk_drewN ?_ _ | refine blk_drew ?_ | refine blk_alloc ?_ _)); exact BK411.out) hb); have n7_ := Aside0.mk (blk_below (g := gb416) (o := .cells #[.int .i64 t413, .int .i64 t414] 23 (0, 0)) (by (with_reducible repeat (first | refine blk_drewN ?_ _ | refine blk_drew ?_ | refine blk_alloc ?_ _)); refine blk_far ?_ NB416_421.out _; (with_reducible repeat (first | refine blk_drewN ?_ _ | refine blk_drew ?_ | refine blk_alloc ?_ _)); refine blk_far ?_ NB416_421.out _; (with_reducible repeat (first | refine blk_drewN ?_ _ | refine blk_drew ?_ | refine blk_alloc ?_ _)); exact BK416.out) hb); have n8_ := Aside0.mk (blk_below (g := gb421) (o := .cells #[.int .i64 (wrap64 (a3)), .int .i64 0] 23 (0, 0)) (by (with_reducible repeat (first | refine blk_drewN ?_ _ | refine blk_drew ?_ | refine blk_alloc ?_ _)); refine blk_put (cs := #[.int .i64 (wrap64 (a3)), .int .i64 0]) ?_ 1 _ rfl; (with_reducible repeat (first | refine blk_drewN ?_ _ | refine blk_drew ?_ | refine blk_alloc ?_ _)); refine blk_put (cs := #[.int .i64 0, .int .i64 0]) ?_ 0 _ rfl; (with_reducible repeat (first | refine blk_drewN ?_ _ | refine blk_drew ?_ | refine blk_alloc ?_ _)); exact BK421.out) hb); have n9_ := Aside0.mk (below_step (by repeat (first | (with_reducible first | exact HB.out | apply below_alloc | apply pw_below_drewN | apply below_drew1 | refine below_set ?_ GE393.out | refine below_set ?_ GE394.out | refine below_set ?_ GE395.out | refine below_set ?_ GE399.out | refine below_set ?_ GE403.out | refine below_set ?_ GE407.out | refine below_set ?_ GE411.out | refine below_set ?_ GE416.out | refine below_set ?_ GE421.out) | exact HB.out)) hb); clear BK393; clear BK394; clear BK395; clear BK399; clear BK403; clear BK407; clear BK411; clear BK416; clear BK421; clear HB; have BK393 := n0_; have BK394 := n1_; have BK395 := n2_; have BK399 := n3_; have BK403 := n4_; have BK407 := n5_; have BK411 := n6_; have BK416 := n7_; have BK421 := n8_; have HB := n9_; clear n0_ n1_ n2_ n3_ n4_ n5_ n6_ n7_ n8_ n9_; (try clear hb); (try clear hb2); (try clear hk); (try clear hi)))
                      go_meet
                      case rel => exact ⟨_, (!t422), (by first | rfl | (simp; done) | (simp [*]; done)), H', ⟨by have := HJ8.out; have := HJ137.out; have := HJ169.out; first | omega | exact Nat.le_refl _⟩, ⟨by (with_reducible repeat (first | refine blk_drewN ?_ _ | refine blk_drew ?_ | refine blk_alloc ?_ _)); exact BK393.out⟩, ⟨by (with_reducible repeat (first | refine blk_drewN ?_ _ | refine blk_drew ?_ | refine blk_alloc ?_ _)); exact BK394.out⟩, ⟨by (with_reducible repeat (first | refine blk_drewN ?_ _ | refine blk_drew ?_ | refine blk_alloc ?_ _)); exact BK395.out⟩, ⟨by (with_reducible repeat (first | refine blk_drewN ?_ _ | refine blk_drew ?_ | refine blk_alloc ?_ _)); exact BK399.out⟩, ⟨by (with_reducible repeat (first | refine blk_drewN ?_ _ | refine blk_drew ?_ | refine blk_alloc ?_ _)); exact BK403.out⟩, ⟨by (with_reducible repeat (first | refine blk_drewN ?_ _ | refine blk_drew ?_ | refine blk_alloc ?_ _)); exact BK407.out⟩, ⟨by (with_reducible repeat (first | refine blk_drewN ?_ _ | refine blk_drew ?_ | refine blk_alloc ?_ _)); exact BK411.out⟩, ⟨by (with_reducible repeat (first | refine blk_drewN ?_ _ | refine blk_drew ?_ | refine blk_alloc ?_ _)); exact BK416.out⟩, ⟨by (with_reducible repeat (first | refine blk_drewN ?_ _ | refine blk_drew ?_ | refine blk_alloc ?_ _)); exact BK421.out⟩, ⟨by repeat (first | (with_reducible first | exact HB.out | apply below_alloc | apply pw_below_drewN | apply below_drew1 | refine below_set ?_ GE393.out | refine below_set ?_ GE394.out | refine below_set ?_ GE395.out | refine below_set ?_ GE399.out | refine below_set ?_ GE403.out | refine below_set ?_ GE407.out | refine below_set ?_ GE411.out | refine below_set ?_ GE416.out | refine below_set ?_ GE421.out) | exact HB.out)⟩⟩
                  case rest =>
                    clear HC191
                    try clear c1
                    try clear c2
                    try clear p2
                    try clear c3
                    try clear c4
                    try clear c5
                    try clear c6
                    try clear p6
                    try clear c7
                    try clear c8
                    try clear c9
                    try clear c10
                    try clear c11
                    try clear c12
                    try clear c13
                    try clear c14
                    try clear c15
                    try clear c16
                    try clear c17
                    try clear c18
                    try clear c19
                    try clear c20
                    try clear c21
                    try clear c22
                    try clear c24
                    try clear c25
                    try clear c28
                    try clear c29
                    try clear c30
                    try clear c31
                    try clear c37
                    try clear c38
                    try clear c39
                    try clear c40
                    try clear c41
                    try clear c47
                    try clear c48
                    try clear c49
                    try clear c50
                    try clear c51
                    try clear c52
                    try clear c55
                    try clear c56
                    try clear c56b0
                    try clear c58
                    try clear c59
                    try clear c60
                    try clear c61
                    try clear c62
                    try clear c63
                    try clear p64
                    try clear c65
                    try clear c66
                    try clear c67
                    try clear c68
                    try clear c69
                    try clear c71
                    try clear c71b0
                    try clear c71b1
                    try clear c72
                    try clear c72b0
                    try clear c74
                    try clear c75
                    try clear c76
                    try clear c77
                    try clear c78
                    try clear c79
                    try clear c81
                    try clear c82
                    try clear c83
                    try clear c84
                    try clear c85
                    try clear c87
                    try clear c88
                    try clear c89
                    try clear c90
                    try clear c92
                    try clear c93
                    try clear c94
                    try clear c97
                    try clear c98
                    try clear c99
                    try clear c100
                    try clear c101
                    try clear c102
                    try clear c104
                    try clear c105
                    try clear c106
                    try clear c107
                    try clear c108
                    try clear c110
                    try clear c111
                    try clear c112
                    try clear c113
                    try clear c115
                    try clear c116
                    try clear c117
                    try clear c120
                    try clear c121
                    try clear c122
                    try clear c123
                    try clear c124
                    try clear c125
                    try clear c127
                    try clear c128
                    try clear c129
                    try clear c130
                    try clear c131
                    try clear c134
                    try clear c135
                    try clear c135b0
                    try clear c135b1
                    try clear c139
                    try clear c140
                    try clear c141
                    try clear c142
                    try clear c143
                    try clear c144
                    try clear c146
                    try clear c147
                    try clear c148
                    try clear c149
                    try clear c150
                    try clear c154
                    try clear c155
                    try clear c156
                    try clear c157
                    try clear c158
                    try clear c159
                    try clear c160
                    try clear c162
                    try clear c163
                    try clear c164
                    try clear c165
                    try clear c169
                    try clear c169b0
                    try clear c169b1
                    try clear c171
                    try clear c173
                    try clear c173b0
                    try clear c173b1
                    try clear c174
                    try clear c174b0
                    try clear c174b1
                    try clear c175
                    try clear c176
                    try clear c177
                    try clear c178
                    try clear c179
                    try clear c180
                    try clear c181
                    try clear c183
                    try clear c184
                    try clear c185
                    try clear c186
                    try clear c187
                    try clear c188
                    try clear c193
                    try clear c194
                    try clear c195
                    try clear c196
                    try clear c197
                    try clear c198
                    try clear c199
                    try clear c200
                    try clear c202
                    try clear c202b0
                    try clear c202b1
                    try clear c204
                    try clear c205
                    try clear c206
                    try clear c207
                    try clear c208
                    try clear c209
                    try clear c210
                    try clear c211
                    try clear hcz103_0
                    try clear hcz103_1
                    try clear hcz109_0
                    try clear hcz109_1
                    try clear hcz114_0
                    try clear hcz114_1
                    try clear hcz118_0
                    try clear hcz118_1
                    try clear hcz126_0
                    try clear hcz126_1
                    try clear hcz132_0
                    try clear hcz132_1
                    try clear hcz145_0
                    try clear hcz145_1
                    try clear hcz151_0
                    try clear hcz151_1
                    try clear hcz15_0
                    try clear hcz15_1
                    try clear hcz161_0
                    try clear hcz161_1
                    try clear hcz166_0
                    try clear hcz166_1
                    try clear hcz167_0
                    try clear hcz167_1
                    try clear hcz17_0
                    try clear hcz17_1
                    try clear hcz182_0
                    try clear hcz182_1
                    try clear hcz189_0
                    try clear hcz189_1
                    try clear hcz201_0
                    try clear hcz201_1
                    try clear hcz212_0
                    try clear hcz212_1
                    try clear hcz23_0
                    try clear hcz23_1
                    try clear hcz24_0
                    try clear hcz24_1
                    try clear hcz25_0
                    try clear hcz25_1
                    try clear hcz32_0
                    try clear hcz32_1
                    try clear hcz33_0
                    try clear hcz33_1
                    try clear hcz34_0
                    try clear hcz34_1
                    try clear hcz42_0
                    try clear hcz42_1
                    try clear hcz43_0
                    try clear hcz43_1
                    try clear hcz44_0
                    try clear hcz44_1
                    try clear hcz53_0
                    try clear hcz53_1
                    try clear hcz64_0
                    try clear hcz64_1
                    try clear hcz70_0
                    try clear hcz70_1
                    try clear hcz80_0
                    try clear hcz80_1
                    try clear hcz86_0
                    try clear hcz86_1
                    try clear hcz91_0
                    try clear hcz91_1
                    try clear hcz95_0
                    try clear hcz95_1
                    try clear hfz103_0
                    try clear hfz103_1
                    try clear hfz109_0
                    try clear hfz109_1
                    try clear hfz114_0
                    try clear hfz114_1
                    try clear hfz118_0
                    try clear hfz118_1
                    try clear hfz126_0
                    try clear hfz126_1
                    try clear hfz132_0
                    try clear hfz132_1
                    try clear hfz145_0
                    try clear hfz145_1
                    try clear hfz151_0
                    try clear hfz151_1
                    try clear hfz15_0
                    try clear hfz15_1
                    try clear hfz161_0
                    try clear hfz161_1
                    try clear hfz166_0
                    try clear hfz166_1
                    try clear hfz167_0
                    try clear hfz167_1
                    try clear hfz17_0
                    try clear hfz17_1
                    try clear hfz182_0
                    try clear hfz182_1
                    try clear hfz189_0
                    try clear hfz189_1
                    try clear hfz201_0
                    try clear hfz201_1
                    try clear hfz212_0
                    try clear hfz212_1
                    try clear hfz23_0
                    try clear hfz23_1
                    try clear hfz24_0
                    try clear hfz24_1
                    try clear hfz25_0
                    try clear hfz25_1
                    try clear hfz32_0
                    try clear hfz32_1
                    try clear hfz33_0
                    try clear hfz33_1
                    try clear hfz34_0
                    try clear hfz34_1
                    try clear hfz42_0
                    try clear hfz42_1
                    try clear hfz43_0
                    try clear hfz43_1
                    try clear hfz44_0
                    try clear hfz44_1
                    try clear hfz53_0
                    try clear hfz53_1
                    try clear hfz64_0
                    try clear hfz64_1
                    try clear hfz70_0
                    try clear hfz70_1
                    try clear hfz80_0
                    try clear hfz80_1
                    try clear hfz86_0
                    try clear hfz86_1
                    try clear hfz91_0
                    try clear hfz91_1
                    try clear hfz95_0
                    try clear hfz95_1
                    try clear p2
                    obtain ⟨kq, x116_190, rfl, HA, HJ190, BK393, BK394, BK395, BK399, BK403, BK407, BK411, BK416, BK421, HB⟩ := hcut
                    cases kq with
                    | zero => exact absurd HA.out (by simp [soffitlaw01_DeciLaws.j3])
                    | succ kj190 =>
                      have H := HA.out
                      clear HA
                      simp only [soffitlaw01_DeciLaws.j3] at H
                      by_cases c214 : x116_190 = true
                      · subst c214
                        have H1 : (some true) = some r := by rw [if_pos rfl] at H; exact H
                        clear H
                        have H := H1
                        clear H1
                        obtain rfl := Option.some.inj H
                        go_wp2
                        go_ret
                        exact ⟨by first | rfl | (simp [errW_none, errW_some] <;> rfl) | (simp [*, errW_none, errW_some] <;> rfl), by repeat (first | (with_reducible first | exact HB.out | apply below_alloc | apply pw_below_drewN | apply below_drew1 | refine below_set ?_ GE393.out | refine below_set ?_ GE394.out | refine below_set ?_ GE395.out | refine below_set ?_ GE399.out | refine below_set ?_ GE403.out | refine below_set ?_ GE407.out | refine below_set ?_ GE411.out | refine below_set ?_ GE416.out | refine below_set ?_ GE421.out) | exact HB.out)⟩
                      · replace c214 := Bool.eq_false_iff.mpr c214
                        subst c214
                        have H1 : ((deci_Mul.f kj190 a0_0 a0_1 (wrap64 (a3)) 0).bind fun bt423 => (if bt423.2.2 = 0 then ((deci_Div.f kj190 bt423.1 bt423.2.1 (wrap64 (a3)) 0).bind fun bt427 => (if bt427.2.2 = 0 then (some (bt427.1 == a0_0 && (bt427.2.1 == a0_1))) else (some false))) else (some (bt423.2.2 == 3)))) = some r := by rw [if_neg (show ¬ (false = true) by decide)] at H; exact H
                        clear H
                        have H := H1
                        clear H1
                        replace H := Option.bind_eq_some_iff.mp H
                        obtain ⟨⟨t423, t424, t425⟩, A2150, H⟩ := H
                        replace H : (if t425 = 0 then ((deci_Div.f kj190 t423 t424 (wrap64 (a3)) 0).bind fun bt427 => (if bt427.2.2 = 0 then (some (bt427.1 == a0_0 && (bt427.2.1 == a0_1))) else (some false))) else (some (t425 == 3))) = some r := H
                        have A215 := Aside0.mk A2150
                        clear A2150
                        by_cases c216 : t425 = 0
                        · rw [if_pos c216] at H
                          have c216b0 : (t425 == 0) = true := beq_iff_eq.mpr c216
                          have c216b1 : (t425 != 0) = false := bne_eq_false_iff_eq.mpr c216
                          clear c216
                          replace H := Option.bind_eq_some_iff.mp H
                          obtain ⟨⟨t427, t428, t429⟩, A2170, H⟩ := H
                          replace H : (if t429 = 0 then (some (t427 == a0_0 && (t428 == a0_1))) else (some false)) = some r := H
                          have A217 := Aside0.mk A2170
                          clear A2170
                          by_cases c218 : t429 = 0
                          · rw [if_pos c218] at H
                            have c218b0 : (t429 == 0) = true := beq_iff_eq.mpr c218
                            have c218b1 : (t429 != 0) = false := bne_eq_false_iff_eq.mpr c218
                            clear c218
                            obtain rfl := Option.some.inj H
                            have hnb219 := NB393_394.out
                            have hnc219 := NB394_393.out
                            have hnb220 := NB393_395.out
                            have hnc220 := NB395_393.out
                            have hnb221 := NB393_399.out
                            have hnc221 := NB399_393.out
                            have hnb222 := NB393_403.out
                            have hnc222 := NB403_393.out
                            have hnb223 := NB393_407.out
                            have hnc223 := NB407_393.out
                            have hnb224 := NB393_411.out
                            have hnc224 := NB411_393.out
                            have hnb225 := NB393_416.out
                            have hnc225 := NB416_393.out
                            have hnb226 := NB393_421.out
                            have hnc226 := NB421_393.out
                            have hcz227_0 : wc.cell? ⟨gb393, 0, none⟩ = some (.int .i64 a0_0) := (blk_cell BK393.out 0).trans rfl
                            have hcz227_1 : wc.cell? ⟨gb393, 1, none⟩ = some (.int .i64 a0_1) := (blk_cell BK393.out 1).trans rfl
                            have hfz227_0 := blk_frozen BK393.out 0
                            have hfz227_1 := blk_frozen BK393.out 1
                            have hnb228 := NB421_394.out
                            have hnc228 := NB394_421.out
                            have hnb229 := NB421_395.out
                            have hnc229 := NB395_421.out
                            have hnb230 := NB421_399.out
                            have hnc230 := NB399_421.out
                            have hnb231 := NB421_403.out
                            have hnc231 := NB403_421.out
                            have hnb232 := NB421_407.out
                            have hnc232 := NB407_421.out
                            have hnb233 := NB421_411.out
                            have hnc233 := NB411_421.out
                            have hnb234 := NB421_416.out
                            have hnc234 := NB416_421.out
                            have hcz235_0 : wc.cell? ⟨gb421, 0, none⟩ = some (.int .i64 (wrap64 (a3))) := (blk_cell BK421.out 0).trans rfl
                            have hcz235_1 : wc.cell? ⟨gb421, 1, none⟩ = some (.int .i64 0) := (blk_cell BK421.out 1).trans rfl
                            have hfz235_0 := blk_frozen BK421.out 0
                            have hfz235_1 := blk_frozen BK421.out 1
                            go_wp2_with (first | ((with_reducible refine gate_callee (f := 24) rfl ?_); refine goesL_ (some 120) rfl rfl Tryd.func24 (by kernel_rfl) rfl #[.agg #[.int .i64 a0_0, .int .i64 a0_1], .agg #[.int .i64 (wrap64 (a3)), .int .i64 0]] rfl (by (try simp only [List.map_toArray, List.map_cons, List.map_nil]); first | done | rfl | (simp only [List.length_drop, List.length_take]; rfl)) ?_; (with_reducible refine (deci_Mul.calls kj190 a0_0 a0_1 (wrap64 (a3)) 0 t423 t424 t425 _ A215.out).mono ?_); rintro e w236 ⟨rfl, hb⟩; refine ⟨_, rfl, ?_⟩; have n0_ := Aside0.mk (blk_below (g := gb393) (o := .cells #[.int .i64 a0_0, .int .i64 a0_1] 23 (0, 0)) (by (with_reducible repeat (first | refine blk_drewN ?_ _ | refine blk_drew ?_ | refine blk_alloc ?_ _)); exact BK393.out) hb); have n1_ := Aside0.mk (blk_below (g := gb394) (o := .cells #[.int .i64 a1_0, .int .i64 a1_1] 23 (0, 0)) (by (with_reducible repeat (first | refine blk_drewN ?_ _ | refine blk_drew ?_ | refine blk_alloc ?_ _)); exact BK394.out) hb); have n2_ := Aside0.mk (blk_below (g := gb395) (o := .cells #[.int .i64 a2_0, .int .i64 a2_1] 23 (0, 0)) (by (with_reducible repeat (first | refine blk_drewN ?_ _ | refine blk_drew ?_ | refine blk_alloc ?_ _)); exact BK395.out) hb); have n3_ := Aside0.mk (blk_below (g := gb399) (o := .cells #[.int .i64 t396, .int .i64 t397] 23 (0, 0)) (by (with_reducible repeat (first | refine blk_drewN ?_ _ | refine blk_drew ?_ | refine blk_alloc ?_ _)); exact BK399.out) hb); have n4_ := Aside0.mk (blk_below (g := gb403) (o := .cells #[.int .i64 t400, .int .i64 t401] 23 (0, 0)) (by (with_reducible repeat (first | refine blk_drewN ?_ _ | refine blk_drew ?_ | refine blk_alloc ?_ _)); exact BK403.out) hb); have n5_ := Aside0.mk (blk_below (g := gb407) (o := .cells #[.int .i64 t404, .int .i64 t405] 23 (0, 0)) (by (with_reducible repeat (first | refine blk_drewN ?_ _ | refine blk_drew ?_ | refine blk_alloc ?_ _)); exact BK407.out) hb); have n6_ := Aside0.mk (blk_below (g := gb411) (o := .cells #[.int .i64 t408, .int .i64 t409] 23 (0, 0)) (by (with_reducible repeat (first | refine blk_drewN ?_ _ | refine blk_drew ?_ | refine blk_alloc ?_ _)); exact BK411.out) hb); have n7_ := Aside0.mk (blk_below (g := gb416) (o := .cells #[.int .i64 t413, .int .i64 t414] 23 (0, 0)) (by (with_reducible repeat (first | refine blk_drewN ?_ _ | refine blk_drew ?_ | refine blk_alloc ?_ _)); exact BK416.out) hb); have n8_ := Aside0.mk (blk_below (g := gb421) (o := .cells #[.int .i64 (wrap64 (a3)), .int .i64 0] 23 (0, 0)) (by (with_reducible repeat (first | refine blk_drewN ?_ _ | refine blk_drew ?_ | refine blk_alloc ?_ _)); exact BK421.out) hb); have n9_ := Aside0.mk (below_step (by repeat (first | (with_reducible first | exact HB.out | apply below_alloc | apply pw_below_drewN | apply below_drew1 | refine below_set ?_ GE393.out | refine below_set ?_ GE394.out | refine below_set ?_ GE395.out | refine below_set ?_ GE399.out | refine below_set ?_ GE403.out | refine below_set ?_ GE407.out | refine below_set ?_ GE411.out | refine below_set ?_ GE416.out | refine below_set ?_ GE421.out) | exact HB.out)) hb); clear BK393; clear BK394; clear BK395; clear BK399; clear BK403; clear BK407; clear BK411; clear BK416; clear BK421; clear HB; have BK393 := n0_; have BK394 := n1_; have BK395 := n2_; have BK399 := n3_; have BK403 := n4_; have BK407 := n5_; have BK411 := n6_; have BK416 := n7_; have BK421 := n8_; have HB := n9_; clear n0_ n1_ n2_ n3_ n4_ n5_ n6_ n7_ n8_ n9_; (try clear hb); (try clear hb2); (try clear hk); (try clear hi)) | ((with_reducible refine gate_dst (N := 24) rfl ?_); refine box_event ?hg (N := 24) ?hd (cs := #[.int .i64 0, .int .i64 0]) (t := 23) ?hr ?_; (case hd => rfl); (case hg => rfl); (case hr => first | (go_simp; done) | (go_simp; rfl)); intro gb426 hg w237 hbox hb; have n0_ := Aside0.mk (blk_below (g := gb393) (o := .cells #[.int .i64 a0_0, .int .i64 a0_1] 23 (0, 0)) (by (with_reducible repeat (first | refine blk_drewN ?_ _ | refine blk_drew ?_ | refine blk_alloc ?_ _)); exact BK393.out) hb); have n1_ := Aside0.mk (blk_below (g := gb394) (o := .cells #[.int .i64 a1_0, .int .i64 a1_1] 23 (0, 0)) (by (with_reducible repeat (first | refine blk_drewN ?_ _ | refine blk_drew ?_ | refine blk_alloc ?_ _)); exact BK394.out) hb); have n2_ := Aside0.mk (blk_below (g := gb395) (o := .cells #[.int .i64 a2_0, .int .i64 a2_1] 23 (0, 0)) (by (with_reducible repeat (first | refine blk_drewN ?_ _ | refine blk_drew ?_ | refine blk_alloc ?_ _)); exact BK395.out) hb); have n3_ := Aside0.mk (blk_below (g := gb399) (o := .cells #[.int .i64 t396, .int .i64 t397] 23 (0, 0)) (by (with_reducible repeat (first | refine blk_drewN ?_ _ | refine blk_drew ?_ | refine blk_alloc ?_ _)); exact BK399.out) hb); have n4_ := Aside0.mk (blk_below (g := gb403) (o := .cells #[.int .i64 t400, .int .i64 t401] 23 (0, 0)) (by (with_reducible repeat (first | refine blk_drewN ?_ _ | refine blk_drew ?_ | refine blk_alloc ?_ _)); exact BK403.out) hb); have n5_ := Aside0.mk (blk_below (g := gb407) (o := .cells #[.int .i64 t404, .int .i64 t405] 23 (0, 0)) (by (with_reducible repeat (first | refine blk_drewN ?_ _ | refine blk_drew ?_ | refine blk_alloc ?_ _)); exact BK407.out) hb); have n6_ := Aside0.mk (blk_below (g := gb411) (o := .cells #[.int .i64 t408, .int .i64 t409] 23 (0, 0)) (by (with_reducible repeat (first | refine blk_drewN ?_ _ | refine blk_drew ?_ | refine blk_alloc ?_ _)); exact BK411.out) hb); have n7_ := Aside0.mk (blk_below (g := gb416) (o := .cells #[.int .i64 t413, .int .i64 t414] 23 (0, 0)) (by (with_reducible repeat (first | refine blk_drewN ?_ _ | refine blk_drew ?_ | refine blk_alloc ?_ _)); exact BK416.out) hb); have n8_ := Aside0.mk (blk_below (g := gb421) (o := .cells #[.int .i64 (wrap64 (a3)), .int .i64 0] 23 (0, 0)) (by (with_reducible repeat (first | refine blk_drewN ?_ _ | refine blk_drew ?_ | refine blk_alloc ?_ _)); exact BK421.out) hb); have n9_ := Aside0.mk (below_step (by repeat (first | (with_reducible first | exact HB.out | apply below_alloc | apply pw_below_drewN | apply below_drew1 | refine below_set ?_ GE393.out | refine below_set ?_ GE394.out | refine below_set ?_ GE395.out | refine below_set ?_ GE399.out | refine below_set ?_ GE403.out | refine below_set ?_ GE407.out | refine below_set ?_ GE411.out | refine below_set ?_ GE416.out | refine below_set ?_ GE421.out) | exact HB.out)) hb); have n10_ := Aside0.mk (hbox); have n11_ := Aside0.mk ((by rw [hg]; exact (below_size (by repeat (first | (with_reducible first | exact HB.out | apply below_alloc | apply pw_below_drewN | apply below_drew1 | refine below_set ?_ GE393.out | refine below_set ?_ GE394.out | refine below_set ?_ GE395.out | refine below_set ?_ GE399.out | refine below_set ?_ GE403.out | refine below_set ?_ GE407.out | refine below_set ?_ GE411.out | refine below_set ?_ GE416.out | refine below_set ?_ GE421.out) | exact HB.out))) : w.heap.size ≤ gb426)); have n12_ := Aside0.mk ((by rw [hg]; exact (below_size (by repeat (first | (with_reducible first | exact HB.out | apply below_alloc | apply pw_below_drewN | apply below_drew1 | refine below_set ?_ GE393.out | refine below_set ?_ GE394.out | refine below_set ?_ GE395.out | refine below_set ?_ GE399.out | refine below_set ?_ GE403.out | refine below_set ?_ GE407.out | refine below_set ?_ GE411.out | refine below_set ?_ GE416.out | refine below_set ?_ GE421.out) | exact HB.out))) : w.heap.size ≤ gb426)); have n13_ := Aside0.mk ((by rw [hg]; exact Nat.ne_of_lt (blk_lt (g := gb393) (o := .cells #[.int .i64 a0_0, .int .i64 a0_1] 23 (0, 0)) (by (with_reducible repeat (first | refine blk_drewN ?_ _ | refine blk_drew ?_ | refine blk_alloc ?_ _)); exact BK393.out)) : gb393 ≠ gb426)); have n14_ := Aside0.mk ((by rw [hg]; exact Nat.ne_of_gt (blk_lt (g := gb393) (o := .cells #[.int .i64 a0_0, .int .i64 a0_1] 23 (0, 0)) (by (with_reducible repeat (first | refine blk_drewN ?_ _ | refine blk_drew ?_ | refine blk_alloc ?_ _)); exact BK393.out)) : gb426 ≠ gb393)); have n15_ := Aside0.mk ((by rw [hg]; exact Nat.ne_of_lt (blk_lt (g := gb394) (o := .cells #[.int .i64 a1_0, .int .i64 a1_1] 23 (0, 0)) (by (with_reducible repeat (first | refine blk_drewN ?_ _ | refine blk_drew ?_ | refine blk_alloc ?_ _)); exact BK394.out)) : gb394 ≠ gb426)); have n16_ := Aside0.mk ((by rw [hg]; exact Nat.ne_of_gt (blk_lt (g := gb394) (o := .cells #[.int .i64 a1_0, .int .i64 a1_1] 23 (0, 0)) (by (with_reducible repeat (first | refine blk_drewN ?_ _ | refine blk_drew ?_ | refine blk_alloc ?_ _)); exact BK394.out)) : gb426 ≠ gb394)); have n17_ := Aside0.mk ((by rw [hg]; exact Nat.ne_of_lt (blk_lt (g := gb395) (o := .cells #[.int .i64 a2_0, .int .i64 a2_1] 23 (0, 0)) (by (with_reducible repeat (first | refine blk_drewN ?_ _ | refine blk_drew ?_ | refine blk_alloc ?_ _)); exact BK395.out)) : gb395 ≠ gb426)); have n18_ := Aside0.mk ((by rw [hg]; exact Nat.ne_of_gt (blk_lt (g := gb395) (o := .cells #[.int .i64 a2_0, .int .i64 a2_1] 23 (0, 0)) (by (with_reducible repeat (first | refine blk_drewN ?_ _ | refine blk_drew ?_ | refine blk_alloc ?_ _)); exact BK395.out)) : gb426 ≠ gb395)); have n19_ := Aside0.mk ((by rw [hg]; exact Nat.ne_of_lt (blk_lt (g := gb399) (o := .cells #[.int .i64 t396, .int .i64 t397] 23 (0, 0)) (by (with_reducible repeat (first | refine blk_drewN ?_ _ | refine blk_drew ?_ | refine blk_alloc ?_ _)); exact BK399.out)) : gb399 ≠ gb426)); have n20_ := Aside0.mk ((by rw [hg]; exact Nat.ne_of_gt (blk_lt (g := gb399) (o := .cells #[.int .i64 t396, .int .i64 t397] 23 (0, 0)) (by (with_reducible repeat (first | refine blk_drewN ?_ _ | refine blk_drew ?_ | refine blk_alloc ?_ _)); exact BK399.out)) : gb426 ≠ gb399)); have n21_ := Aside0.mk ((by rw [hg]; exact Nat.ne_of_lt (blk_lt (g := gb403) (o := .cells #[.int .i64 t400, .int .i64 t401] 23 (0, 0)) (by (with_reducible repeat (first | refine blk_drewN ?_ _ | refine blk_drew ?_ | refine blk_alloc ?_ _)); exact BK403.out)) : gb403 ≠ gb426)); have n22_ := Aside0.mk ((by rw [hg]; exact Nat.ne_of_gt (blk_lt (g := gb403) (o := .cells #[.int .i64 t400, .int .i64 t401] 23 (0, 0)) (by (with_reducible repeat (first | refine blk_drewN ?_ _ | refine blk_drew ?_ | refine blk_alloc ?_ _)); exact BK403.out)) : gb426 ≠ gb403)); have n23_ := Aside0.mk ((by rw [hg]; exact Nat.ne_of_lt (blk_lt (g := gb407) (o := .cells #[.int .i64 t404, .int .i64 t405] 23 (0, 0)) (by (with_reducible repeat (first | refine blk_drewN ?_ _ | refine blk_drew ?_ | refine blk_alloc ?_ _)); exact BK407.out)) : gb407 ≠ gb426)); have n24_ := Aside0.mk ((by rw [hg]; exact Nat.ne_of_gt (blk_lt (g := gb407) (o := .cells #[.int .i64 t404, .int .i64 t405] 23 (0, 0)) (by (with_reducible repeat (first | refine blk_drewN ?_ _ | refine blk_drew ?_ | refine blk_alloc ?_ _)); exact BK407.out)) : gb426 ≠ gb407)); have n25_ := Aside0.mk ((by rw [hg]; exact Nat.ne_of_lt (blk_lt (g := gb411) (o := .cells #[.int .i64 t408, .int .i64 t409] 23 (0, 0)) (by (with_reducible repeat (first | refine blk_drewN ?_ _ | refine blk_drew ?_ | refine blk_alloc ?_ _)); exact BK411.out)) : gb411 ≠ gb426)); have n26_ := Aside0.mk ((by rw [hg]; exact Nat.ne_of_gt (blk_lt (g := gb411) (o := .cells #[.int .i64 t408, .int .i64 t409] 23 (0, 0)) (by (with_reducible repeat (first | refine blk_drewN ?_ _ | refine blk_drew ?_ | refine blk_alloc ?_ _)); exact BK411.out)) : gb426 ≠ gb411)); have n27_ := Aside0.mk ((by rw [hg]; exact Nat.ne_of_lt (blk_lt (g := gb416) (o := .cells #[.int .i64 t413, .int .i64 t414] 23 (0, 0)) (by (with_reducible repeat (first | refine blk_drewN ?_ _ | refine blk_drew ?_ | refine blk_alloc ?_ _)); exact BK416.out)) : gb416 ≠ gb426)); have n28_ := Aside0.mk ((by rw [hg]; exact Nat.ne_of_gt (blk_lt (g := gb416) (o := .cells #[.int .i64 t413, .int .i64 t414] 23 (0, 0)) (by (with_reducible repeat (first | refine blk_drewN ?_ _ | refine blk_drew ?_ | refine blk_alloc ?_ _)); exact BK416.out)) : gb426 ≠ gb416)); have n29_ := Aside0.mk ((by rw [hg]; exact Nat.ne_of_lt (blk_lt (g := gb421) (o := .cells #[.int .i64 (wrap64 (a3)), .int .i64 0] 23 (0, 0)) (by (with_reducible repeat (first | refine blk_drewN ?_ _ | refine blk_drew ?_ | refine blk_alloc ?_ _)); exact BK421.out)) : gb421 ≠ gb426)); have n30_ := Aside0.mk ((by rw [hg]; exact Nat.ne_of_gt (blk_lt (g := gb421) (o := .cells #[.int .i64 (wrap64 (a3)), .int .i64 0] 23 (0, 0)) (by (with_reducible repeat (first | refine blk_drewN ?_ _ | refine blk_drew ?_ | refine blk_alloc ?_ _)); exact BK421.out)) : gb426 ≠ gb421)); clear BK393; clear BK394; clear BK395; clear BK399; clear BK403; clear BK407; clear BK411; clear BK416; clear BK421; clear HB; have BK393 := n0_; have BK394 := n1_; have BK395 := n2_; have BK399 := n3_; have BK403 := n4_; have BK407 := n5_; have BK411 := n6_; have BK416 := n7_; have BK421 := n8_; have HB := n9_; have BK426 := n10_; have GW426 := n11_; have GE426 := n12_; have NB393_426 := n13_; have NB426_393 := n14_; have NB394_426 := n15_; have NB426_394 := n16_; have NB395_426 := n17_; have NB426_395 := n18_; have NB399_426 := n19_; have NB426_399 := n20_; have NB403_426 := n21_; have NB426_403 := n22_; have NB407_426 := n23_; have NB426_407 := n24_; have NB411_426 := n25_; have NB426_411 := n26_; have NB416_426 := n27_; have NB426_416 := n28_; have NB421_426 := n29_; have NB426_421 := n30_; clear n0_ n1_ n2_ n3_ n4_ n5_ n6_ n7_ n8_ n9_ n10_ n11_ n12_ n13_ n14_ n15_ n16_ n17_ n18_ n19_ n20_ n21_ n22_ n23_ n24_ n25_ n26_ n27_ n28_ n29_ n30_; clear hb hbox hg; have hnb238 := NB426_393.out; have hnc238 := NB393_426.out; have hnb239 := NB426_394.out; have hnc239 := NB394_426.out; have hnb240 := NB426_395.out; have hnc240 := NB395_426.out; have hnb241 := NB426_399.out; have hnc241 := NB399_426.out; have hnb242 := NB426_403.out; have hnc242 := NB403_426.out; have hnb243 := NB426_407.out; have hnc243 := NB407_426.out; have hnb244 := NB426_411.out; have hnc244 := NB411_426.out; have hnb245 := NB426_416.out; have hnc245 := NB416_426.out; have hnb246 := NB426_421.out; have hnc246 := NB421_426.out; have hcz247_0 : w237.cell? ⟨gb426, 0, none⟩ = some (.int .i64 0) := (blk_cell BK426.out 0).trans rfl; have hcz247_1 : w237.cell? ⟨gb426, 1, none⟩ = some (.int .i64 0) := (blk_cell BK426.out 1).trans rfl; have hfz247_0 := blk_frozen BK426.out 0; have hfz247_1 := blk_frozen BK426.out 1; have hcz248_0 : w237.cell? ⟨gb421, 0, none⟩ = some (.int .i64 (wrap64 (a3))) := (blk_cell BK421.out 0).trans rfl; have hcz248_1 : w237.cell? ⟨gb421, 1, none⟩ = some (.int .i64 0) := (blk_cell BK421.out 1).trans rfl; have hfz248_0 := blk_frozen BK421.out 0; have hfz248_1 := blk_frozen BK421.out 1) | ((with_reducible refine gate_callee (f := 14) rfl ?_); refine goesL_ (some 130) rfl rfl Tryd.func14 (by kernel_rfl) rfl #[.agg #[.int .i64 t423, .int .i64 t424], .agg #[.int .i64 (wrap64 (a3)), .int .i64 0]] rfl (by (try simp only [List.map_toArray, List.map_cons, List.map_nil]); first | done | rfl | (simp only [List.length_drop, List.length_take]; rfl)) ?_; (with_reducible refine (deci_Div.calls kj190 t423 t424 (wrap64 (a3)) 0 t427 t428 t429 _ A217.out).mono ?_); rintro e w249 ⟨rfl, hb⟩; refine ⟨_, rfl, ?_⟩; have n0_ := Aside0.mk (blk_below (g := gb393) (o := .cells #[.int .i64 a0_0, .int .i64 a0_1] 23 (0, 0)) (by (with_reducible repeat (first | refine blk_drewN ?_ _ | refine blk_drew ?_ | refine blk_alloc ?_ _)); refine blk_far ?_ NB393_426.out _; (with_reducible repeat (first | refine blk_drewN ?_ _ | refine blk_drew ?_ | refine blk_alloc ?_ _)); refine blk_far ?_ NB393_426.out _; (with_reducible repeat (first | refine blk_drewN ?_ _ | refine blk_drew ?_ | refine blk_alloc ?_ _)); exact BK393.out) hb); have n1_ := Aside0.mk (blk_below (g := gb394) (o := .cells #[.int .i64 a1_0, .int .i64 a1_1] 23 (0, 0)) (by (with_reducible repeat (first | refine blk_drewN ?_ _ | refine blk_drew ?_ | refine blk_alloc ?_ _)); refine blk_far ?_ NB394_426.out _; (with_reducible repeat (first | refine blk_drewN ?_ _ | refine blk_drew ?_ | refine blk_alloc ?_ _)); refine blk_far ?_ NB394_426.out _; (with_reducible repeat (first | refine blk_drewN ?_ _ | refine blk_drew ?_ | refine blk_alloc ?_ _)); exact BK394.out) hb); have n2_ := Aside0.mk (blk_below (g := gb395) (o := .cells #[.int .i64 a2_0, .int .i64 a2_1] 23 (0, 0)) (by (with_reducible repeat (first | refine blk_drewN ?_ _ | refine blk_drew ?_ | refine blk_alloc ?_ _)); refine blk_far ?_ NB395_426.out _; (with_reducible repeat (first | refine blk_drewN ?_ _ | refine blk_drew ?_ | refine blk_alloc ?_ _)); refine blk_far ?_ NB395_426.out _; (with_reducible repeat (first | refine blk_drewN ?_ _ | refine blk_drew ?_ | refine blk_alloc ?_ _)); exact BK395.out) hb); have n3_ := Aside0.mk (blk_below (g := gb399) (o := .cells #[.int .i64 t396, .int .i64 t397] 23 (0, 0)) (by (with_reducible repeat (first | refine blk_drewN ?_ _ | refine blk_drew ?_ | refine blk_alloc ?_ _)); refine blk_far ?_ NB399_426.out _; (with_reducible repeat (first | refine blk_drewN ?_ _ | refine blk_drew ?_ | refine blk_alloc ?_ _)); refine blk_far ?_ NB399_426.out _; (with_reducible repeat (first | refine blk_drewN ?_ _ | refine blk_drew ?_ | refine blk_alloc ?_ _)); exact BK399.out) hb); have n4_ := Aside0.mk (blk_below (g := gb403) (o := .cells #[.int .i64 t400, .int .i64 t401] 23 (0, 0)) (by (with_reducible repeat (first | refine blk_drewN ?_ _ | refine blk_drew ?_ | refine blk_alloc ?_ _)); refine blk_far ?_ NB403_426.out _; (with_reducible repeat (first | refine blk_drewN ?_ _ | refine blk_drew ?_ | refine blk_alloc ?_ _)); refine blk_far ?_ NB403_426.out _; (with_reducible repeat (first | refine blk_drewN ?_ _ | refine blk_drew ?_ | refine blk_alloc ?_ _)); exact BK403.out) hb); have n5_ := Aside0.mk (blk_below (g := gb407) (o := .cells #[.int .i64 t404, .int .i64 t405] 23 (0, 0)) (by (with_reducible repeat (first | refine blk_drewN ?_ _ | refine blk_drew ?_ | refine blk_alloc ?_ _)); refine blk_far ?_ NB407_426.out _; (with_reducible repeat (first | refine blk_drewN ?_ _ | refine blk_drew ?_ | refine blk_alloc ?_ _)); refine blk_far ?_ NB407_426.out _; (with_reducible repeat (first | refine blk_drewN ?_ _ | refine blk_drew ?_ | refine blk_alloc ?_ _)); exact BK407.out) hb); have n6_ := Aside0.mk (blk_below (g := gb411) (o := .cells #[.int .i64 t408, .int .i64 t409] 23 (0, 0)) (by (with_reducible repeat (first | refine blk_drewN ?_ _ | refine blk_drew ?_ | refine blk_alloc ?_ _)); refine blk_far ?_ NB411_426.out _; (with_reducible repeat (first | refine blk_drewN ?_ _ | refine blk_drew ?_ | refine blk_alloc ?_ _)); refine blk_far ?_ NB411_426.out _; (with_reducible repeat (first | refine blk_drewN ?_ _ | refine blk_drew ?_ | refine blk_alloc ?_ _)); exact BK411.out) hb); have n7_ := Aside0.mk (blk_below (g := gb416) (o := .cells #[.int .i64 t413, .int .i64 t414] 23 (0, 0)) (by (with_reducible repeat (first | refine blk_drewN ?_ _ | refine blk_drew ?_ | refine blk_alloc ?_ _)); refine blk_far ?_ NB416_426.out _; (with_reducible repeat (first | refine blk_drewN ?_ _ | refine blk_drew ?_ | refine blk_alloc ?_ _)); refine blk_far ?_ NB416_426.out _; (with_reducible repeat (first | refine blk_drewN ?_ _ | refine blk_drew ?_ | refine blk_alloc ?_ _)); exact BK416.out) hb); have n8_ := Aside0.mk (blk_below (g := gb421) (o := .cells #[.int .i64 (wrap64 (a3)), .int .i64 0] 23 (0, 0)) (by (with_reducible repeat (first | refine blk_drewN ?_ _ | refine blk_drew ?_ | refine blk_alloc ?_ _)); refine blk_far ?_ NB421_426.out _; (with_reducible repeat (first | refine blk_drewN ?_ _ | refine blk_drew ?_ | refine blk_alloc ?_ _)); refine blk_far ?_ NB421_426.out _; (with_reducible repeat (first | refine blk_drewN ?_ _ | refine blk_drew ?_ | refine blk_alloc ?_ _)); exact BK421.out) hb); have n9_ := Aside0.mk (blk_below (g := gb426) (o := .cells #[.int .i64 t423, .int .i64 t424] 23 (0, 0)) (by (with_reducible repeat (first | refine blk_drewN ?_ _ | refine blk_drew ?_ | refine blk_alloc ?_ _)); refine blk_put (cs := #[.int .i64 t423, .int .i64 0]) ?_ 1 _ rfl; (with_reducible repeat (first | refine blk_drewN ?_ _ | refine blk_drew ?_ | refine blk_alloc ?_ _)); refine blk_put (cs := #[.int .i64 0, .int .i64 0]) ?_ 0 _ rfl; (with_reducible repeat (first | refine blk_drewN ?_ _ | refine blk_drew ?_ | refine blk_alloc ?_ _)); exact BK426.out) hb); have n10_ := Aside0.mk (below_step (by repeat (first | (with_reducible first | exact HB.out | apply below_alloc | apply pw_below_drewN | apply below_drew1 | refine below_set ?_ GE393.out | refine below_set ?_ GE394.out | refine below_set ?_ GE395.out | refine below_set ?_ GE399.out | refine below_set ?_ GE403.out | refine below_set ?_ GE407.out | refine below_set ?_ GE411.out | refine below_set ?_ GE416.out | refine below_set ?_ GE421.out | refine below_set ?_ GE426.out) | exact HB.out)) hb); clear BK393; clear BK394; clear BK395; clear BK399; clear BK403; clear BK407; clear BK411; clear BK416; clear BK421; clear BK426; clear HB; have BK393 := n0_; have BK394 := n1_; have BK395 := n2_; have BK399 := n3_; have BK403 := n4_; have BK407 := n5_; have BK411 := n6_; have BK416 := n7_; have BK421 := n8_; have BK426 := n9_; have HB := n10_; clear n0_ n1_ n2_ n3_ n4_ n5_ n6_ n7_ n8_ n9_ n10_; (try clear hb); (try clear hb2); (try clear hk); (try clear hi)) | ((with_reducible refine gate_dst (N := 26) rfl ?_); refine box_event ?hg (N := 26) ?hd (cs := #[.int .i64 0, .int .i64 0]) (t := 23) ?hr ?_; (case hd => rfl); (case hg => rfl); (case hr => first | (go_simp; done) | (go_simp; rfl)); intro gb430 hg w250 hbox hb; have n0_ := Aside0.mk (blk_below (g := gb393) (o := .cells #[.int .i64 a0_0, .int .i64 a0_1] 23 (0, 0)) (by (with_reducible repeat (first | refine blk_drewN ?_ _ | refine blk_drew ?_ | refine blk_alloc ?_ _)); exact BK393.out) hb); have n1_ := Aside0.mk (blk_below (g := gb394) (o := .cells #[.int .i64 a1_0, .int .i64 a1_1] 23 (0, 0)) (by (with_reducible repeat (first | refine blk_drewN ?_ _ | refine blk_drew ?_ | refine blk_alloc ?_ _)); exact BK394.out) hb); have n2_ := Aside0.mk (blk_below (g := gb395) (o := .cells #[.int .i64 a2_0, .int .i64 a2_1] 23 (0, 0)) (by (with_reducible repeat (first | refine blk_drewN ?_ _ | refine blk_drew ?_ | refine blk_alloc ?_ _)); exact BK395.out) hb); have n3_ := Aside0.mk (blk_below (g := gb399) (o := .cells #[.int .i64 t396, .int .i64 t397] 23 (0, 0)) (by (with_reducible repeat (first | refine blk_drewN ?_ _ | refine blk_drew ?_ | refine blk_alloc ?_ _)); exact BK399.out) hb); have n4_ := Aside0.mk (blk_below (g := gb403) (o := .cells #[.int .i64 t400, .int .i64 t401] 23 (0, 0)) (by (with_reducible repeat (first | refine blk_drewN ?_ _ | refine blk_drew ?_ | refine blk_alloc ?_ _)); exact BK403.out) hb); have n5_ := Aside0.mk (blk_below (g := gb407) (o := .cells #[.int .i64 t404, .int .i64 t405] 23 (0, 0)) (by (with_reducible repeat (first | refine blk_drewN ?_ _ | refine blk_drew ?_ | refine blk_alloc ?_ _)); exact BK407.out) hb); have n6_ := Aside0.mk (blk_below (g := gb411) (o := .cells #[.int .i64 t408, .int .i64 t409] 23 (0, 0)) (by (with_reducible repeat (first | refine blk_drewN ?_ _ | refine blk_drew ?_ | refine blk_alloc ?_ _)); exact BK411.out) hb); have n7_ := Aside0.mk (blk_below (g := gb416) (o := .cells #[.int .i64 t413, .int .i64 t414] 23 (0, 0)) (by (with_reducible repeat (first | refine blk_drewN ?_ _ | refine blk_drew ?_ | refine blk_alloc ?_ _)); exact BK416.out) hb); have n8_ := Aside0.mk (blk_below (g := gb421) (o := .cells #[.int .i64 (wrap64 (a3)), .int .i64 0] 23 (0, 0)) (by (with_reducible repeat (first | refine blk_drewN ?_ _ | refine blk_drew ?_ | refine blk_alloc ?_ _)); exact BK421.out) hb); have n9_ := Aside0.mk (blk_below (g := gb426) (o := .cells #[.int .i64 t423, .int .i64 t424] 23 (0, 0)) (by (with_reducible repeat (first | refine blk_drewN ?_ _ | refine blk_drew ?_ | refine blk_alloc ?_ _)); exact BK426.out) hb); have n10_ := Aside0.mk (below_step (by repeat (first | (with_reducible first | exact HB.out | apply below_alloc | apply pw_below_drewN | apply below_drew1 | refine below_set ?_ GE393.out | refine below_set ?_ GE394.out | refine below_set ?_ GE395.out | refine below_set ?_ GE399.out | refine below_set ?_ GE403.out | refine below_set ?_ GE407.out | refine below_set ?_ GE411.out | refine below_set ?_ GE416.out | refine below_set ?_ GE421.out | refine below_set ?_ GE426.out) | exact HB.out)) hb); have n11_ := Aside0.mk (hbox); have n12_ := Aside0.mk ((by rw [hg]; exact (below_size (by repeat (first | (with_reducible first | exact HB.out | apply below_alloc | apply pw_below_drewN | apply below_drew1 | refine below_set ?_ GE393.out | refine below_set ?_ GE394.out | refine below_set ?_ GE395.out | refine below_set ?_ GE399.out | refine below_set ?_ GE403.out | refine below_set ?_ GE407.out | refine below_set ?_ GE411.out | refine below_set ?_ GE416.out | refine below_set ?_ GE421.out | refine below_set ?_ GE426.out) | exact HB.out))) : w.heap.size ≤ gb430)); have n13_ := Aside0.mk ((by rw [hg]; exact (below_size (by repeat (first | (with_reducible first | exact HB.out | apply below_alloc | apply pw_below_drewN | apply below_drew1 | refine below_set ?_ GE393.out | refine below_set ?_ GE394.out | refine below_set ?_ GE395.out | refine below_set ?_ GE399.out | refine below_set ?_ GE403.out | refine below_set ?_ GE407.out | refine below_set ?_ GE411.out | refine below_set ?_ GE416.out | refine below_set ?_ GE421.out | refine below_set ?_ GE426.out) | exact HB.out))) : w.heap.size ≤ gb430)); have n14_ := Aside0.mk ((by rw [hg]; exact Nat.ne_of_lt (blk_lt (g := gb393) (o := .cells #[.int .i64 a0_0, .int .i64 a0_1] 23 (0, 0)) (by (with_reducible repeat (first | refine blk_drewN ?_ _ | refine blk_drew ?_ | refine blk_alloc ?_ _)); exact BK393.out)) : gb393 ≠ gb430)); have n15_ := Aside0.mk ((by rw [hg]; exact Nat.ne_of_gt (blk_lt (g := gb393) (o := .cells #[.int .i64 a0_0, .int .i64 a0_1] 23 (0, 0)) (by (with_reducible repeat (first | refine blk_drewN ?_ _ | refine blk_drew ?_ | refine blk_alloc ?_ _)); exact BK393.out)) : gb430 ≠ gb393)); have n16_ := Aside0.mk ((by rw [hg]; exact Nat.ne_of_lt (blk_lt (g := gb394) (o := .cells #[.int .i64 a1_0, .int .i64 a1_1] 23 (0, 0)) (by (with_reducible repeat (first | refine blk_drewN ?_ _ | refine blk_drew ?_ | refine blk_alloc ?_ _)); exact BK394.out)) : gb394 ≠ gb430)); have n17_ := Aside0.mk ((by rw [hg]; exact Nat.ne_of_gt (blk_lt (g := gb394) (o := .cells #[.int .i64 a1_0, .int .i64 a1_1] 23 (0, 0)) (by (with_reducible repeat (first | refine blk_drewN ?_ _ | refine blk_drew ?_ | refine blk_alloc ?_ _)); exact BK394.out)) : gb430 ≠ gb394)); have n18_ := Aside0.mk ((by rw [hg]; exact Nat.ne_of_lt (blk_lt (g := gb395) (o := .cells #[.int .i64 a2_0, .int .i64 a2_1] 23 (0, 0)) (by (with_reducible repeat (first | refine blk_drewN ?_ _ | refine blk_drew ?_ | refine blk_alloc ?_ _)); exact BK395.out)) : gb395 ≠ gb430)); have n19_ := Aside0.mk ((by rw [hg]; exact Nat.ne_of_gt (blk_lt (g := gb395) (o := .cells #[.int .i64 a2_0, .int .i64 a2_1] 23 (0, 0)) (by (with_reducible repeat (first | refine blk_drewN ?_ _ | refine blk_drew ?_ | refine blk_alloc ?_ _)); exact BK395.out)) : gb430 ≠ gb395)); have n20_ := Aside0.mk ((by rw [hg]; exact Nat.ne_of_lt (blk_lt (g := gb399) (o := .cells #[.int .i64 t396, .int .i64 t397] 23 (0, 0)) (by (with_reducible repeat (first | refine blk_drewN ?_ _ | refine blk_drew ?_ | refine blk_alloc ?_ _)); exact BK399.out)) : gb399 ≠ gb430)); have n21_ := Aside0.mk ((by rw [hg]; exact Nat.ne_of_gt (blk_lt (g := gb399) (o := .cells #[.int .i64 t396, .int .i64 t397] 23 (0, 0)) (by (with_reducible repeat (first | refine blk_drewN ?_ _ | refine blk_drew ?_ | refine blk_alloc ?_ _)); exact BK399.out)) : gb430 ≠ gb399)); have n22_ := Aside0.mk ((by rw [hg]; exact Nat.ne_of_lt (blk_lt (g := gb403) (o := .cells #[.int .i64 t400, .int .i64 t401] 23 (0, 0)) (by (with_reducible repeat (first | refine blk_drewN ?_ _ | refine blk_drew ?_ | refine blk_alloc ?_ _)); exact BK403.out)) : gb403 ≠ gb430)); have n23_ := Aside0.mk ((by rw [hg]; exact Nat.ne_of_gt (blk_lt (g := gb403) (o := .cells #[.int .i64 t400, .int .i64 t401] 23 (0, 0)) (by (with_reducible repeat (first | refine blk_drewN ?_ _ | refine blk_drew ?_ | refine blk_alloc ?_ _)); exact BK403.out)) : gb430 ≠ gb403)); have n24_ := Aside0.mk ((by rw [hg]; exact Nat.ne_of_lt (blk_lt (g := gb407) (o := .cells #[.int .i64 t404, .int .i64 t405] 23 (0, 0)) (by (with_reducible repeat (first | refine blk_drewN ?_ _ | refine blk_drew ?_ | refine blk_alloc ?_ _)); exact BK407.out)) : gb407 ≠ gb430)); have n25_ := Aside0.mk ((by rw [hg]; exact Nat.ne_of_gt (blk_lt (g := gb407) (o := .cells #[.int .i64 t404, .int .i64 t405] 23 (0, 0)) (by (with_reducible repeat (first | refine blk_drewN ?_ _ | refine blk_drew ?_ | refine blk_alloc ?_ _)); exact BK407.out)) : gb430 ≠ gb407)); have n26_ := Aside0.mk ((by rw [hg]; exact Nat.ne_of_lt (blk_lt (g := gb411) (o := .cells #[.int .i64 t408, .int .i64 t409] 23 (0, 0)) (by (with_reducible repeat (first | refine blk_drewN ?_ _ | refine blk_drew ?_ | refine blk_alloc ?_ _)); exact BK411.out)) : gb411 ≠ gb430)); have n27_ := Aside0.mk ((by rw [hg]; exact Nat.ne_of_gt (blk_lt (g := gb411) (o := .cells #[.int .i64 t408, .int .i64 t409] 23 (0, 0)) (by (with_reducible repeat (first | refine blk_drewN ?_ _ | refine blk_drew ?_ | refine blk_alloc ?_ _)); exact BK411.out)) : gb430 ≠ gb411)); have n28_ := Aside0.mk ((by rw [hg]; exact Nat.ne_of_lt (blk_lt (g := gb416) (o := .cells #[.int .i64 t413, .int .i64 t414] 23 (0, 0)) (by (with_reducible repeat (first | refine blk_drewN ?_ _ | refine blk_drew ?_ | refine blk_alloc ?_ _)); exact BK416.out)) : gb416 ≠ gb430)); have n29_ := Aside0.mk ((by rw [hg]; exact Nat.ne_of_gt (blk_lt (g := gb416) (o := .cells #[.int .i64 t413, .int .i64 t414] 23 (0, 0)) (by (with_reducible repeat (first | refine blk_drewN ?_ _ | refine blk_drew ?_ | refine blk_alloc ?_ _)); exact BK416.out)) : gb430 ≠ gb416)); have n30_ := Aside0.mk ((by rw [hg]; exact Nat.ne_of_lt (blk_lt (g := gb421) (o := .cells #[.int .i64 (wrap64 (a3)), .int .i64 0] 23 (0, 0)) (by (with_reducible repeat (first | refine blk_drewN ?_ _ | refine blk_drew ?_ | refine blk_alloc ?_ _)); exact BK421.out)) : gb421 ≠ gb430)); have n31_ := Aside0.mk ((by rw [hg]; exact Nat.ne_of_gt (blk_lt (g := gb421) (o := .cells #[.int .i64 (wrap64 (a3)), .int .i64 0] 23 (0, 0)) (by (with_reducible repeat (first | refine blk_drewN ?_ _ | refine blk_drew ?_ | refine blk_alloc ?_ _)); exact BK421.out)) : gb430 ≠ gb421)); have n32_ := Aside0.mk ((by rw [hg]; exact Nat.ne_of_lt (blk_lt (g := gb426) (o := .cells #[.int .i64 t423, .int .i64 t424] 23 (0, 0)) (by (with_reducible repeat (first | refine blk_drewN ?_ _ | refine blk_drew ?_ | refine blk_alloc ?_ _)); exact BK426.out)) : gb426 ≠ gb430)); have n33_ := Aside0.mk ((by rw [hg]; exact Nat.ne_of_gt (blk_lt (g := gb426) (o := .cells #[.int .i64 t423, .int .i64 t424] 23 (0, 0)) (by (with_reducible repeat (first | refine blk_drewN ?_ _ | refine blk_drew ?_ | refine blk_alloc ?_ _)); exact BK426.out)) : gb430 ≠ gb426)); clear BK393; clear BK394; clear BK395; clear BK399; clear BK403; clear BK407; clear BK411; clear BK416; clear BK421; clear BK426; clear HB; have BK393 := n0_; have BK394 := n1_; have BK395 := n2_; have BK399 := n3_; have BK403 := n4_; have BK407 := n5_; have BK411 := n6_; have BK416 := n7_; have BK421 := n8_; have BK426 := n9_; have HB := n10_; have BK430 := n11_; have GW430 := n12_; have GE430 := n13_; have NB393_430 := n14_; have NB430_393 := n15_; have NB394_430 := n16_; have NB430_394 := n17_; have NB395_430 := n18_; have NB430_395 := n19_; have NB399_430 := n20_; have NB430_399 := n21_; have NB403_430 := n22_; have NB430_403 := n23_; have NB407_430 := n24_; have NB430_407 := n25_; have NB411_430 := n26_; have NB430_411 := n27_; have NB416_430 := n28_; have NB430_416 := n29_; have NB421_430 := n30_; have NB430_421 := n31_; have NB426_430 := n32_; have NB430_426 := n33_; clear n0_ n1_ n2_ n3_ n4_ n5_ n6_ n7_ n8_ n9_ n10_ n11_ n12_ n13_ n14_ n15_ n16_ n17_ n18_ n19_ n20_ n21_ n22_ n23_ n24_ n25_ n26_ n27_ n28_ n29_ n30_ n31_ n32_ n33_; clear hb hbox hg; have hnb251 := NB430_393.out; have hnc251 := NB393_430.out; have hnb252 := NB430_394.out; have hnc252 := NB394_430.out; have hnb253 := NB430_395.out; have hnc253 := NB395_430.out; have hnb254 := NB430_399.out; have hnc254 := NB399_430.out; have hnb255 := NB430_403.out; have hnc255 := NB403_430.out; have hnb256 := NB430_407.out; have hnc256 := NB407_430.out; have hnb257 := NB430_411.out; have hnc257 := NB411_430.out; have hnb258 := NB430_416.out; have hnc258 := NB416_430.out; have hnb259 := NB430_421.out; have hnc259 := NB421_430.out; have hnb260 := NB430_426.out; have hnc260 := NB426_430.out; have hcz261_0 : w250.cell? ⟨gb430, 0, none⟩ = some (.int .i64 0) := (blk_cell BK430.out 0).trans rfl; have hcz261_1 : w250.cell? ⟨gb430, 1, none⟩ = some (.int .i64 0) := (blk_cell BK430.out 1).trans rfl; have hfz261_0 := blk_frozen BK430.out 0; have hfz261_1 := blk_frozen BK430.out 1; have hcz262_0 : w250.cell? ⟨gb393, 0, none⟩ = some (.int .i64 a0_0) := (blk_cell BK393.out 0).trans rfl; have hcz262_1 : w250.cell? ⟨gb393, 1, none⟩ = some (.int .i64 a0_1) := (blk_cell BK393.out 1).trans rfl; have hfz262_0 := blk_frozen BK393.out 0; have hfz262_1 := blk_frozen BK393.out 1))
                            go_ret
                            exact ⟨by first | rfl | (simp [errW_none, errW_some] <;> rfl) | (simp [*, errW_none, errW_some] <;> rfl), by repeat (first | (with_reducible first | exact HB.out | apply below_alloc | apply pw_below_drewN | apply below_drew1 | refine below_set ?_ GE393.out | refine below_set ?_ GE394.out | refine below_set ?_ GE395.out | refine below_set ?_ GE399.out | refine below_set ?_ GE403.out | refine below_set ?_ GE407.out | refine below_set ?_ GE411.out | refine below_set ?_ GE416.out | refine below_set ?_ GE421.out | refine below_set ?_ GE426.out | refine below_set ?_ GE430.out) | exact HB.out)⟩
                          · rw [if_neg c218] at H
                            have c218b0 : (t429 == 0) = false := beq_eq_false_iff_ne.mpr c218
                            have c218b1 : (t429 != 0) = true := bne_iff_ne.mpr c218
                            exact absurd HR.out (by rw [← Option.some.inj H]; simp)
                        · rw [if_neg c216] at H
                          have c216b0 : (t425 == 0) = false := beq_eq_false_iff_ne.mpr c216
                          have c216b1 : (t425 != 0) = true := bne_iff_ne.mpr c216
                          obtain rfl := Option.some.inj H
                          have hnb263 := NB393_394.out
                          have hnc263 := NB394_393.out
                          have hnb264 := NB393_395.out
                          have hnc264 := NB395_393.out
                          have hnb265 := NB393_399.out
                          have hnc265 := NB399_393.out
                          have hnb266 := NB393_403.out
                          have hnc266 := NB403_393.out
                          have hnb267 := NB393_407.out
                          have hnc267 := NB407_393.out
                          have hnb268 := NB393_411.out
                          have hnc268 := NB411_393.out
                          have hnb269 := NB393_416.out
                          have hnc269 := NB416_393.out
                          have hnb270 := NB393_421.out
                          have hnc270 := NB421_393.out
                          have hcz271_0 : wc.cell? ⟨gb393, 0, none⟩ = some (.int .i64 a0_0) := (blk_cell BK393.out 0).trans rfl
                          have hcz271_1 : wc.cell? ⟨gb393, 1, none⟩ = some (.int .i64 a0_1) := (blk_cell BK393.out 1).trans rfl
                          have hfz271_0 := blk_frozen BK393.out 0
                          have hfz271_1 := blk_frozen BK393.out 1
                          have hnb272 := NB421_394.out
                          have hnc272 := NB394_421.out
                          have hnb273 := NB421_395.out
                          have hnc273 := NB395_421.out
                          have hnb274 := NB421_399.out
                          have hnc274 := NB399_421.out
                          have hnb275 := NB421_403.out
                          have hnc275 := NB403_421.out
                          have hnb276 := NB421_407.out
                          have hnc276 := NB407_421.out
                          have hnb277 := NB421_411.out
                          have hnc277 := NB411_421.out
                          have hnb278 := NB421_416.out
                          have hnc278 := NB416_421.out
                          have hcz279_0 : wc.cell? ⟨gb421, 0, none⟩ = some (.int .i64 (wrap64 (a3))) := (blk_cell BK421.out 0).trans rfl
                          have hcz279_1 : wc.cell? ⟨gb421, 1, none⟩ = some (.int .i64 0) := (blk_cell BK421.out 1).trans rfl
                          have hfz279_0 := blk_frozen BK421.out 0
                          have hfz279_1 := blk_frozen BK421.out 1
                          go_wp2_with (first | ((with_reducible refine gate_callee (f := 24) rfl ?_); refine goesL_ (some 120) rfl rfl Tryd.func24 (by kernel_rfl) rfl #[.agg #[.int .i64 a0_0, .int .i64 a0_1], .agg #[.int .i64 (wrap64 (a3)), .int .i64 0]] rfl (by (try simp only [List.map_toArray, List.map_cons, List.map_nil]); first | done | rfl | (simp only [List.length_drop, List.length_take]; rfl)) ?_; (with_reducible refine (deci_Mul.calls kj190 a0_0 a0_1 (wrap64 (a3)) 0 t423 t424 t425 _ A215.out).mono ?_); rintro e w280 ⟨rfl, hb⟩; refine ⟨_, rfl, ?_⟩; have n0_ := Aside0.mk (blk_below (g := gb393) (o := .cells #[.int .i64 a0_0, .int .i64 a0_1] 23 (0, 0)) (by (with_reducible repeat (first | refine blk_drewN ?_ _ | refine blk_drew ?_ | refine blk_alloc ?_ _)); exact BK393.out) hb); have n1_ := Aside0.mk (blk_below (g := gb394) (o := .cells #[.int .i64 a1_0, .int .i64 a1_1] 23 (0, 0)) (by (with_reducible repeat (first | refine blk_drewN ?_ _ | refine blk_drew ?_ | refine blk_alloc ?_ _)); exact BK394.out) hb); have n2_ := Aside0.mk (blk_below (g := gb395) (o := .cells #[.int .i64 a2_0, .int .i64 a2_1] 23 (0, 0)) (by (with_reducible repeat (first | refine blk_drewN ?_ _ | refine blk_drew ?_ | refine blk_alloc ?_ _)); exact BK395.out) hb); have n3_ := Aside0.mk (blk_below (g := gb399) (o := .cells #[.int .i64 t396, .int .i64 t397] 23 (0, 0)) (by (with_reducible repeat (first | refine blk_drewN ?_ _ | refine blk_drew ?_ | refine blk_alloc ?_ _)); exact BK399.out) hb); have n4_ := Aside0.mk (blk_below (g := gb403) (o := .cells #[.int .i64 t400, .int .i64 t401] 23 (0, 0)) (by (with_reducible repeat (first | refine blk_drewN ?_ _ | refine blk_drew ?_ | refine blk_alloc ?_ _)); exact BK403.out) hb); have n5_ := Aside0.mk (blk_below (g := gb407) (o := .cells #[.int .i64 t404, .int .i64 t405] 23 (0, 0)) (by (with_reducible repeat (first | refine blk_drewN ?_ _ | refine blk_drew ?_ | refine blk_alloc ?_ _)); exact BK407.out) hb); have n6_ := Aside0.mk (blk_below (g := gb411) (o := .cells #[.int .i64 t408, .int .i64 t409] 23 (0, 0)) (by (with_reducible repeat (first | refine blk_drewN ?_ _ | refine blk_drew ?_ | refine blk_alloc ?_ _)); exact BK411.out) hb); have n7_ := Aside0.mk (blk_below (g := gb416) (o := .cells #[.int .i64 t413, .int .i64 t414] 23 (0, 0)) (by (with_reducible repeat (first | refine blk_drewN ?_ _ | refine blk_drew ?_ | refine blk_alloc ?_ _)); exact BK416.out) hb); have n8_ := Aside0.mk (blk_below (g := gb421) (o := .cells #[.int .i64 (wrap64 (a3)), .int .i64 0] 23 (0, 0)) (by (with_reducible repeat (first | refine blk_drewN ?_ _ | refine blk_drew ?_ | refine blk_alloc ?_ _)); exact BK421.out) hb); have n9_ := Aside0.mk (below_step (by repeat (first | (with_reducible first | exact HB.out | apply below_alloc | apply pw_below_drewN | apply below_drew1 | refine below_set ?_ GE393.out | refine below_set ?_ GE394.out | refine below_set ?_ GE395.out | refine below_set ?_ GE399.out | refine below_set ?_ GE403.out | refine below_set ?_ GE407.out | refine below_set ?_ GE411.out | refine below_set ?_ GE416.out | refine below_set ?_ GE421.out) | exact HB.out)) hb); clear BK393; clear BK394; clear BK395; clear BK399; clear BK403; clear BK407; clear BK411; clear BK416; clear BK421; clear HB; have BK393 := n0_; have BK394 := n1_; have BK395 := n2_; have BK399 := n3_; have BK403 := n4_; have BK407 := n5_; have BK411 := n6_; have BK416 := n7_; have BK421 := n8_; have HB := n9_; clear n0_ n1_ n2_ n3_ n4_ n5_ n6_ n7_ n8_ n9_; (try clear hb); (try clear hb2); (try clear hk); (try clear hi)) | ((with_reducible refine gate_dst (N := 24) rfl ?_); refine box_event ?hg (N := 24) ?hd (cs := #[.int .i64 0, .int .i64 0]) (t := 23) ?hr ?_; (case hd => rfl); (case hg => rfl); (case hr => first | (go_simp; done) | (go_simp; rfl)); intro gb426 hg w281 hbox hb; have n0_ := Aside0.mk (blk_below (g := gb393) (o := .cells #[.int .i64 a0_0, .int .i64 a0_1] 23 (0, 0)) (by (with_reducible repeat (first | refine blk_drewN ?_ _ | refine blk_drew ?_ | refine blk_alloc ?_ _)); exact BK393.out) hb); have n1_ := Aside0.mk (blk_below (g := gb394) (o := .cells #[.int .i64 a1_0, .int .i64 a1_1] 23 (0, 0)) (by (with_reducible repeat (first | refine blk_drewN ?_ _ | refine blk_drew ?_ | refine blk_alloc ?_ _)); exact BK394.out) hb); have n2_ := Aside0.mk (blk_below (g := gb395) (o := .cells #[.int .i64 a2_0, .int .i64 a2_1] 23 (0, 0)) (by (with_reducible repeat (first | refine blk_drewN ?_ _ | refine blk_drew ?_ | refine blk_alloc ?_ _)); exact BK395.out) hb); have n3_ := Aside0.mk (blk_below (g := gb399) (o := .cells #[.int .i64 t396, .int .i64 t397] 23 (0, 0)) (by (with_reducible repeat (first | refine blk_drewN ?_ _ | refine blk_drew ?_ | refine blk_alloc ?_ _)); exact BK399.out) hb); have n4_ := Aside0.mk (blk_below (g := gb403) (o := .cells #[.int .i64 t400, .int .i64 t401] 23 (0, 0)) (by (with_reducible repeat (first | refine blk_drewN ?_ _ | refine blk_drew ?_ | refine blk_alloc ?_ _)); exact BK403.out) hb); have n5_ := Aside0.mk (blk_below (g := gb407) (o := .cells #[.int .i64 t404, .int .i64 t405] 23 (0, 0)) (by (with_reducible repeat (first | refine blk_drewN ?_ _ | refine blk_drew ?_ | refine blk_alloc ?_ _)); exact BK407.out) hb); have n6_ := Aside0.mk (blk_below (g := gb411) (o := .cells #[.int .i64 t408, .int .i64 t409] 23 (0, 0)) (by (with_reducible repeat (first | refine blk_drewN ?_ _ | refine blk_drew ?_ | refine blk_alloc ?_ _)); exact BK411.out) hb); have n7_ := Aside0.mk (blk_below (g := gb416) (o := .cells #[.int .i64 t413, .int .i64 t414] 23 (0, 0)) (by (with_reducible repeat (first | refine blk_drewN ?_ _ | refine blk_drew ?_ | refine blk_alloc ?_ _)); exact BK416.out) hb); have n8_ := Aside0.mk (blk_below (g := gb421) (o := .cells #[.int .i64 (wrap64 (a3)), .int .i64 0] 23 (0, 0)) (by (with_reducible repeat (first | refine blk_drewN ?_ _ | refine blk_drew ?_ | refine blk_alloc ?_ _)); exact BK421.out) hb); have n9_ := Aside0.mk (below_step (by repeat (first | (with_reducible first | exact HB.out | apply below_alloc | apply pw_below_drewN | apply below_drew1 | refine below_set ?_ GE393.out | refine below_set ?_ GE394.out | refine below_set ?_ GE395.out | refine below_set ?_ GE399.out | refine below_set ?_ GE403.out | refine below_set ?_ GE407.out | refine below_set ?_ GE411.out | refine below_set ?_ GE416.out | refine below_set ?_ GE421.out) | exact HB.out)) hb); have n10_ := Aside0.mk (hbox); have n11_ := Aside0.mk ((by rw [hg]; exact (below_size (by repeat (first | (with_reducible first | exact HB.out | apply below_alloc | apply pw_below_drewN | apply below_drew1 | refine below_set ?_ GE393.out | refine below_set ?_ GE394.out | refine below_set ?_ GE395.out | refine below_set ?_ GE399.out | refine below_set ?_ GE403.out | refine below_set ?_ GE407.out | refine below_set ?_ GE411.out | refine below_set ?_ GE416.out | refine below_set ?_ GE421.out) | exact HB.out))) : w.heap.size ≤ gb426)); have n12_ := Aside0.mk ((by rw [hg]; exact (below_size (by repeat (first | (with_reducible first | exact HB.out | apply below_alloc | apply pw_below_drewN | apply below_drew1 | refine below_set ?_ GE393.out | refine below_set ?_ GE394.out | refine below_set ?_ GE395.out | refine below_set ?_ GE399.out | refine below_set ?_ GE403.out | refine below_set ?_ GE407.out | refine below_set ?_ GE411.out | refine below_set ?_ GE416.out | refine below_set ?_ GE421.out) | exact HB.out))) : w.heap.size ≤ gb426)); have n13_ := Aside0.mk ((by rw [hg]; exact Nat.ne_of_lt (blk_lt (g := gb393) (o := .cells #[.int .i64 a0_0, .int .i64 a0_1] 23 (0, 0)) (by (with_reducible repeat (first | refine blk_drewN ?_ _ | refine blk_drew ?_ | refine blk_alloc ?_ _)); exact BK393.out)) : gb393 ≠ gb426)); have n14_ := Aside0.mk ((by rw [hg]; exact Nat.ne_of_gt (blk_lt (g := gb393) (o := .cells #[.int .i64 a0_0, .int .i64 a0_1] 23 (0, 0)) (by (with_reducible repeat (first | refine blk_drewN ?_ _ | refine blk_drew ?_ | refine blk_alloc ?_ _)); exact BK393.out)) : gb426 ≠ gb393)); have n15_ := Aside0.mk ((by rw [hg]; exact Nat.ne_of_lt (blk_lt (g := gb394) (o := .cells #[.int .i64 a1_0, .int .i64 a1_1] 23 (0, 0)) (by (with_reducible repeat (first | refine blk_drewN ?_ _ | refine blk_drew ?_ | refine blk_alloc ?_ _)); exact BK394.out)) : gb394 ≠ gb426)); have n16_ := Aside0.mk ((by rw [hg]; exact Nat.ne_of_gt (blk_lt (g := gb394) (o := .cells #[.int .i64 a1_0, .int .i64 a1_1] 23 (0, 0)) (by (with_reducible repeat (first | refine blk_drewN ?_ _ | refine blk_drew ?_ | refine blk_alloc ?_ _)); exact BK394.out)) : gb426 ≠ gb394)); have n17_ := Aside0.mk ((by rw [hg]; exact Nat.ne_of_lt (blk_lt (g := gb395) (o := .cells #[.int .i64 a2_0, .int .i64 a2_1] 23 (0, 0)) (by (with_reducible repeat (first | refine blk_drewN ?_ _ | refine blk_drew ?_ | refine blk_alloc ?_ _)); exact BK395.out)) : gb395 ≠ gb426)); have n18_ := Aside0.mk ((by rw [hg]; exact Nat.ne_of_gt (blk_lt (g := gb395) (o := .cells #[.int .i64 a2_0, .int .i64 a2_1] 23 (0, 0)) (by (with_reducible repeat (first | refine blk_drewN ?_ _ | refine blk_drew ?_ | refine blk_alloc ?_ _)); exact BK395.out)) : gb426 ≠ gb395)); have n19_ := Aside0.mk ((by rw [hg]; exact Nat.ne_of_lt (blk_lt (g := gb399) (o := .cells #[.int .i64 t396, .int .i64 t397] 23 (0, 0)) (by (with_reducible repeat (first | refine blk_drewN ?_ _ | refine blk_drew ?_ | refine blk_alloc ?_ _)); exact BK399.out)) : gb399 ≠ gb426)); have n20_ := Aside0.mk ((by rw [hg]; exact Nat.ne_of_gt (blk_lt (g := gb399) (o := .cells #[.int .i64 t396, .int .i64 t397] 23 (0, 0)) (by (with_reducible repeat (first | refine blk_drewN ?_ _ | refine blk_drew ?_ | refine blk_alloc ?_ _)); exact BK399.out)) : gb426 ≠ gb399)); have n21_ := Aside0.mk ((by rw [hg]; exact Nat.ne_of_lt (blk_lt (g := gb403) (o := .cells #[.int .i64 t400, .int .i64 t401] 23 (0, 0)) (by (with_reducible repeat (first | refine blk_drewN ?_ _ | refine blk_drew ?_ | refine blk_alloc ?_ _)); exact BK403.out)) : gb403 ≠ gb426)); have n22_ := Aside0.mk ((by rw [hg]; exact Nat.ne_of_gt (blk_lt (g := gb403) (o := .cells #[.int .i64 t400, .int .i64 t401] 23 (0, 0)) (by (with_reducible repeat (first | refine blk_drewN ?_ _ | refine blk_drew ?_ | refine blk_alloc ?_ _)); exact BK403.out)) : gb426 ≠ gb403)); have n23_ := Aside0.mk ((by rw [hg]; exact Nat.ne_of_lt (blk_lt (g := gb407) (o := .cells #[.int .i64 t404, .int .i64 t405] 23 (0, 0)) (by (with_reducible repeat (first | refine blk_drewN ?_ _ | refine blk_drew ?_ | refine blk_alloc ?_ _)); exact BK407.out)) : gb407 ≠ gb426)); have n24_ := Aside0.mk ((by rw [hg]; exact Nat.ne_of_gt (blk_lt (g := gb407) (o := .cells #[.int .i64 t404, .int .i64 t405] 23 (0, 0)) (by (with_reducible repeat (first | refine blk_drewN ?_ _ | refine blk_drew ?_ | refine blk_alloc ?_ _)); exact BK407.out)) : gb426 ≠ gb407)); have n25_ := Aside0.mk ((by rw [hg]; exact Nat.ne_of_lt (blk_lt (g := gb411) (o := .cells #[.int .i64 t408, .int .i64 t409] 23 (0, 0)) (by (with_reducible repeat (first | refine blk_drewN ?_ _ | refine blk_drew ?_ | refine blk_alloc ?_ _)); exact BK411.out)) : gb411 ≠ gb426)); have n26_ := Aside0.mk ((by rw [hg]; exact Nat.ne_of_gt (blk_lt (g := gb411) (o := .cells #[.int .i64 t408, .int .i64 t409] 23 (0, 0)) (by (with_reducible repeat (first | refine blk_drewN ?_ _ | refine blk_drew ?_ | refine blk_alloc ?_ _)); exact BK411.out)) : gb426 ≠ gb411)); have n27_ := Aside0.mk ((by rw [hg]; exact Nat.ne_of_lt (blk_lt (g := gb416) (o := .cells #[.int .i64 t413, .int .i64 t414] 23 (0, 0)) (by (with_reducible repeat (first | refine blk_drewN ?_ _ | refine blk_drew ?_ | refine blk_alloc ?_ _)); exact BK416.out)) : gb416 ≠ gb426)); have n28_ := Aside0.mk ((by rw [hg]; exact Nat.ne_of_gt (blk_lt (g := gb416) (o := .cells #[.int .i64 t413, .int .i64 t414] 23 (0, 0)) (by (with_reducible repeat (first | refine blk_drewN ?_ _ | refine blk_drew ?_ | refine blk_alloc ?_ _)); exact BK416.out)) : gb426 ≠ gb416)); have n29_ := Aside0.mk ((by rw [hg]; exact Nat.ne_of_lt (blk_lt (g := gb421) (o := .cells #[.int .i64 (wrap64 (a3)), .int .i64 0] 23 (0, 0)) (by (with_reducible repeat (first | refine blk_drewN ?_ _ | refine blk_drew ?_ | refine blk_alloc ?_ _)); exact BK421.out)) : gb421 ≠ gb426)); have n30_ := Aside0.mk ((by rw [hg]; exact Nat.ne_of_gt (blk_lt (g := gb421) (o := .cells #[.int .i64 (wrap64 (a3)), .int .i64 0] 23 (0, 0)) (by (with_reducible repeat (first | refine blk_drewN ?_ _ | refine blk_drew ?_ | refine blk_alloc ?_ _)); exact BK421.out)) : gb426 ≠ gb421)); clear BK393; clear BK394; clear BK395; clear BK399; clear BK403; clear BK407; clear BK411; clear BK416; clear BK421; clear HB; have BK393 := n0_; have BK394 := n1_; have BK395 := n2_; have BK399 := n3_; have BK403 := n4_; have BK407 := n5_; have BK411 := n6_; have BK416 := n7_; have BK421 := n8_; have HB := n9_; have BK426 := n10_; have GW426 := n11_; have GE426 := n12_; have NB393_426 := n13_; have NB426_393 := n14_; have NB394_426 := n15_; have NB426_394 := n16_; have NB395_426 := n17_; have NB426_395 := n18_; have NB399_426 := n19_; have NB426_399 := n20_; have NB403_426 := n21_; have NB426_403 := n22_; have NB407_426 := n23_; have NB426_407 := n24_; have NB411_426 := n25_; have NB426_411 := n26_; have NB416_426 := n27_; have NB426_416 := n28_; have NB421_426 := n29_; have NB426_421 := n30_; clear n0_ n1_ n2_ n3_ n4_ n5_ n6_ n7_ n8_ n9_ n10_ n11_ n12_ n13_ n14_ n15_ n16_ n17_ n18_ n19_ n20_ n21_ n22_ n23_ n24_ n25_ n26_ n27_ n28_ n29_ n30_; clear hb hbox hg; have hnb282 := NB426_393.out; have hnc282 := NB393_426.out; have hnb283 := NB426_394.out; have hnc283 := NB394_426.out; have hnb284 := NB426_395.out; have hnc284 := NB395_426.out; have hnb285 := NB426_399.out; have hnc285 := NB399_426.out; have hnb286 := NB426_403.out; have hnc286 := NB403_426.out; have hnb287 := NB426_407.out; have hnc287 := NB407_426.out; have hnb288 := NB426_411.out; have hnc288 := NB411_426.out; have hnb289 := NB426_416.out; have hnc289 := NB416_426.out; have hnb290 := NB426_421.out; have hnc290 := NB421_426.out; have hcz291_0 : w281.cell? ⟨gb426, 0, none⟩ = some (.int .i64 0) := (blk_cell BK426.out 0).trans rfl; have hcz291_1 : w281.cell? ⟨gb426, 1, none⟩ = some (.int .i64 0) := (blk_cell BK426.out 1).trans rfl; have hfz291_0 := blk_frozen BK426.out 0; have hfz291_1 := blk_frozen BK426.out 1))
                          go_ret
                          exact ⟨by first | rfl | (simp [errW_none, errW_some] <;> rfl) | (simp [*, errW_none, errW_some] <;> rfl), by repeat (first | (with_reducible first | exact HB.out | apply below_alloc | apply pw_below_drewN | apply below_drew1 | refine below_set ?_ GE393.out | refine below_set ?_ GE394.out | refine below_set ?_ GE395.out | refine below_set ?_ GE399.out | refine below_set ?_ GE403.out | refine below_set ?_ GE407.out | refine below_set ?_ GE411.out | refine below_set ?_ GE416.out | refine below_set ?_ GE421.out | refine below_set ?_ GE426.out) | exact HB.out)⟩
        · rw [if_neg c135] at H
          have c135b0 : (t398 == 0) = false := beq_eq_false_iff_ne.mpr c135
          have c135b1 : (t398 != 0) = true := bne_iff_ne.mpr c135
          obtain rfl := Option.some.inj H
          go_wp2
          go_ret
          exact ⟨by first | rfl | (simp [errW_none, errW_some] <;> rfl) | (simp [*, errW_none, errW_some] <;> rfl), by repeat (first | (with_reducible first | exact HB.out | apply below_alloc | apply pw_below_drewN | apply below_drew1 | refine below_set ?_ GE393.out | refine below_set ?_ GE394.out | refine below_set ?_ GE395.out | refine below_set ?_ GE399.out | refine below_set ?_ GE403.out | refine below_set ?_ GE407.out | refine below_set ?_ GE411.out) | exact HB.out)⟩
end Go.Proofs.YtgkemhgihbfmmaaDoor.PA
end
section
namespace Go.Proofs.YtgkemhgihbfmmaaDoor.M
def sh : Nat → Int → Int × Int
  | 0, n => (n, 0)
  | s + 1, n => if n % 10 = 0 then sh s (n / 10) else (n, (s : Int) + 1)
theorem sh_id (s : Nat) (n : Int) (h : s = 0 ∨ n % 10 ≠ 0) : sh s n = (n, (s : Int)) := by
  cases s with
  | zero => rfl
  | succ s =>
    have h' : ¬ n % 10 = 0 := by omega
    simp [sh, h']
theorem sh_neg (s : Nat) : ∀ n : Int, sh s (-n) = (-(sh s n).1, (sh s n).2) := by
  induction s with
  | zero => intro n; rfl
  | succ s ih =>
    intro n
    by_cases h : n % 10 = 0
    · have h2 : (-n) % 10 = 0 := by omega
      have h3 : (-n) / 10 = -(n / 10) := by omega
      simp only [sh, h, h2, if_true, h3, ih]
    · have h2 : ¬ (-n) % 10 = 0 := by omega
      simp only [sh, h, h2, if_false]
theorem sh_spec (s : Nat) : ∀ n : Int, ∃ t : Nat, t ≤ s ∧ (sh s n).2 = ((s - t : Nat) : Int) ∧ n = (sh s n).1 * 10 ^ t ∧ ((sh s n).2 = 0 ∨ (sh s n).1 % 10 ≠ 0) := by
  induction s with
  | zero => intro n; exact ⟨0, Nat.le_refl _, rfl, by simp [sh], .inl rfl⟩
  | succ s ih =>
    intro n
    by_cases h : n % 10 = 0
    · obtain ⟨t, h1, h2, h3, h4⟩ := ih (n / 10)
      refine ⟨t + 1, by omega, ?_, ?_, ?_⟩
      · simp only [sh, h, if_true]; rw [h2]; congr 1; omega
      · simp only [sh, h, if_true]
        have e : n = (n / 10) * 10 := by omega
        rw [Int.pow_succ, ← Int.mul_assoc, ← h3]; exact e
      · simp only [sh, h, if_true]; exact h4
    · refine ⟨0, Nat.zero_le _, ?_, ?_, ?_⟩
      · simp [sh, h]
      · simp [sh, h]
      · simp only [sh, h, if_false]; exact .inr h
theorem sh_nonneg (s : Nat) : ∀ n : Int, 0 ≤ n → 0 ≤ (sh s n).1 ∧ (sh s n).1 ≤ n := by
  induction s with
  | zero => intro n h; simp only [sh]; omega
  | succ s ih =>
    intro n h
    by_cases h1 : n % 10 = 0
    · have := ih (n / 10) (by omega)
      simp only [sh, h1, if_true]; omega
    · simp only [sh, h1, if_false]; omega
theorem sh_le (s : Nat) : ∀ n : Int, 0 ≤ (sh s n).2 ∧ (sh s n).2 ≤ s := by
  intro n; obtain ⟨t, h1, h2, _, _⟩ := sh_spec s n; rw [h2]; omega
theorem sh_pow (s t : Nat) (n : Int) : sh (s + t) (n * 10 ^ t) = sh s n := by
  induction t with
  | zero => simp
  | succ t ih =>
    have h1 : (n * 10 ^ (t + 1)) % 10 = 0 := by rw [Int.pow_succ, ← Int.mul_assoc]; exact Int.mul_emod_left _ _
    have h2 : (n * 10 ^ (t + 1)) / 10 = n * 10 ^ t := by rw [Int.pow_succ, ← Int.mul_assoc]; exact Int.mul_ediv_cancel _ (by decide)
    rw [← Nat.add_assoc]; simp only [sh, h1, if_true, h2, ih]
def decS (n : Int) (s : Nat) (m : Bool) : Int × Int × Int :=
  if 999999999999 < (sh s n).1 then (0, 0, 3) else (if m = true then -(sh s n).1 else (sh s n).1, (sh s n).2, 0)
theorem sh_big (s : Nat) : ∀ n : Int, s ≤ 6 → 999999999999 * 1000000 + 1000000 ≤ n → 999999999999 < (sh s n).1 := by
  intro n hs hn
  obtain ⟨t, h1, h2, h3, _⟩ := sh_spec s n
  have hp : (10 : Int) ^ t ≤ 1000000 := by
    have h : t ≤ 6 := by omega
    match t, h with
    | 0, _ | 1, _ | 2, _ | 3, _ | 4, _ | 5, _ | 6, _ => decide
  have hpos : 0 ≤ (10 : Int) ^ t := Int.pow_nonneg (by decide)
  false_or_by_contra
  have h4 : (sh s n).1 ≤ 999999999999 := by omega
  have h5 : 0 ≤ (sh s n).1 := (sh_nonneg s n (by omega)).1
  have h6 : (sh s n).1 * 10 ^ t ≤ 999999999999 * 1000000 := Int.mul_le_mul h4 hp hpos (by decide)
  omega
def Snd (n s : Int) : Prop := 0 ≤ s ∧ s ≤ 6 ∧ -999999999999 ≤ n ∧ n ≤ 999999999999 ∧ (s = 0 ∨ n % 10 ≠ 0)
instance (n s : Int) : Decidable (Snd n s) := by unfold Snd; infer_instance
def mk (n s : Int) : Int × Int × Int :=
  if s < 0 ∨ 6 < s ∨ 999999999999 < n ∨ n < -999999999999 then (0, 0, 3) else ((sh s.toNat n).1, (sh s.toNat n).2, 0)
theorem mk_sound (n s : Int) (h : Snd n s) : mk n s = (n, s, 0) := by
  obtain ⟨h0, h1, h2, h3, h4⟩ := h
  unfold mk; rw [if_neg (by omega)]
  rw [sh_id s.toNat n (by omega)]; simp only [Prod.mk.injEq, and_true, true_and]; omega
theorem mk_unsound (n s : Int) (h : ¬ Snd n s) : ¬ ((mk n s).2.2 = 0 ∧ (mk n s).1 = n ∧ (mk n s).2.1 = s) := by
  unfold mk
  by_cases h1 : s < 0 ∨ 6 < s ∨ 999999999999 < n ∨ n < -999999999999
  · rw [if_pos h1]; simp
  · rw [if_neg h1]
    rintro ⟨_, h2, h3⟩
    apply h
    refine ⟨by omega, by omega, by omega, by omega, ?_⟩
    obtain ⟨t, _, _, _, h4⟩ := sh_spec s.toNat n
    simp only at h2 h3
    rw [h2, h3] at h4; exact h4
theorem decS_sound (n : Int) (s : Nat) (m : Bool) (hn : 0 ≤ n) (hs : s ≤ 6) (h : (decS n s m).2.2 = 0) : Snd (decS n s m).1 (decS n s m).2.1 := by
  unfold decS at h ⊢
  by_cases h1 : 999999999999 < (sh s n).1
  · rw [if_pos h1] at h; simp at h
  · rw [if_neg h1]
    have h2 := sh_nonneg s n hn; have h3 := sh_le s n
    obtain ⟨t, _, _, _, h4⟩ := sh_spec s n
    exact ⟨h3.1, (by have := h3.2; simp only; omega), (by cases m <;> simp <;> omega), (by cases m <;> simp <;> omega), (by cases m <;> simp <;> omega)⟩
def rhe (v b : Int) : Int := if b < 2 * (v % b) ∨ (2 * (v % b) = b ∧ (v / b) % 2 = 1) then v / b + 1 else v / b
theorem rhe_one (v : Int) : rhe v 1 = v := by unfold rhe; rw [if_neg (by omega)]; omega
theorem rhe_nonneg (v b : Int) (hv : 0 ≤ v) (hb : 0 < b) : 0 ≤ rhe v b := by
  have := Int.ediv_nonneg hv (Int.le_of_lt hb); unfold rhe; split <;> omega
theorem rhe_exact (q b : Int) (hb : 0 < b) : rhe (q * b) b = q := by
  unfold rhe; rw [Int.mul_emod_left, Int.mul_ediv_cancel _ (by omega), if_neg (by omega)]
def Dig (l : List Int) : Prop := ∀ d, d ∈ l → 0 ≤ d ∧ d ≤ 9
theorem Dig.cons {d : Int} {l : List Int} : Dig (d :: l) ↔ (0 ≤ d ∧ d ≤ 9) ∧ Dig l :=
  ⟨fun h => ⟨h d (List.mem_cons_self), fun x hx => h x (List.mem_cons_of_mem _ hx)⟩, fun h x hx => by
    rcases List.mem_cons.1 hx with rfl | hx
    · exact h.1
    · exact h.2 x hx⟩
theorem Dig.nil : Dig [] := fun _ h => by cases h
theorem Dig.drop {l : List Int} (h : Dig l) (k : Nat) : Dig (l.drop k) := fun d hd => h d (List.mem_of_mem_drop hd)
theorem Dig.take {l : List Int} (h : Dig l) (k : Nat) : Dig (l.take k) := fun d hd => h d (List.mem_of_mem_take hd)
theorem Dig.replicate (n : Nat) : Dig (List.replicate n 0) := fun d hd => by
  have := (List.mem_replicate.1 hd).2; omega
theorem pow_pos (k : Nat) : (0 : Int) < 10 ^ k := Int.pow_pos (by decide)
end Go.Proofs.YtgkemhgihbfmmaaDoor.M
end
section
namespace Go.Proofs.YtgkemhgihbfmmaaDoor.PA
open Go.RowKit Go.Proofs.YtgkemhgihbfmmaaDoorW.PrintWords Go.Proofs.YtgkemhgihbfmmaaDoorW.PrintLast Go.Proofs.YtgkemhgihbfmmaaDoorW.PrintMore
open Go.Proofs.YtgkemhgihbfmmaaDoor.M
theorem w64 {x : Int} (h1 : -9223372036854775808 ≤ x) (h2 : x < 9223372036854775808) : wrap64 x = x := by unfold wrap64; omega
theorem wu64 {x : Int} (h1 : 0 ≤ x) (h2 : x < 18446744073709551616) : IntKind.u64.wrap x = x := by rw [IntKind.wrap_u64]; omega
theorem obs {α β : Type} (a : α) (f : α → Option β) : (some a).bind f = f a := by simp
theorem succ_of {k : Nat} (h : 0 < k) : ∃ m, k = m + 1 := ⟨k - 1, by omega⟩
theorem short_l0 (s : Nat) : ∀ (k : Nat) (n : Int), s < k → s ≤ 1000 → 0 ≤ n → n < 18446744073709551616 → deci_form_short.l0 k n s = some (sh s n) := by
  induction s with
  | zero =>
    intro k n hk _ _ _
    obtain ⟨k, rfl⟩ := succ_of (show 0 < k by omega)
    simp only [deci_form_short.l0]; rw [if_neg (by omega)]; rfl
  | succ s ih =>
    intro k n hk hs h0 h1
    obtain ⟨k, rfl⟩ := succ_of (show 0 < k by omega)
    simp only [deci_form_short.l0]
    rw [if_pos (by omega), Int.tmod_eq_emod_of_nonneg h0, Int.tdiv_eq_ediv_of_nonneg h0]
    by_cases h : n % 10 = 0
    · rw [if_pos h, wu64 (by omega) (by omega), w64 (by omega) (by omega), show ((s + 1 : Nat) : Int) - 1 = (s : Int) by omega, ih k (n / 10) (by omega) (by omega) (by omega) (by omega)]
      simp only [sh, h, if_true]
    · rw [if_neg h]; simp only [sh, h, if_false]; rfl
theorem dec_f {k : Nat} {n s : Int} {m : Bool} (hk : 8 ≤ k) (h0 : 0 ≤ n) (h1 : n < 18446744073709551616) (hs0 : 0 ≤ s) (hs : s ≤ 6) :
    deci_form_dec.f k n s m = some (decS n s.toNat m) := by
  obtain ⟨t, rfl⟩ := Int.eq_ofNat_of_zero_le hs0
  unfold deci_form_dec.f deci_form_short.f
  rw [short_l0 t k n (by omega) (by omega) h0 h1]
  simp only [Option.bind_some, Int.toNat_natCast]
  have hb := sh_nonneg t n h0
  unfold decS
  by_cases h : 999999999999 < (sh t n).1
  · rw [if_pos h, if_pos h]
  · rw [if_neg h, if_neg h, w64 (x := (sh t n).1) (by omega) (by omega), w64 (by omega) (by omega)]
    cases m <;> rfl
theorem mx_abs {n : Int} (h1 : -9223372036854775807 ≤ n) (h2 : n < 9223372036854775808) : IntKind.u64.wrap (mx n (wrap64 (-n))) = n.natAbs := by
  rw [w64 (by omega) (by omega)]; unfold mx
  split <;> (rw [wu64 (by omega) (by omega)]; omega)
theorem decS_mk (n s : Int) (h : ¬ (s < 0 ∨ 6 < s ∨ 999999999999 < n ∨ n < -999999999999)) : decS (n.natAbs : Int) s.toNat (decide (n < 0)) = mk n s := by
  unfold decS mk
  rw [if_neg h]
  have hb := sh_nonneg s.toNat (n.natAbs : Int) (by omega)
  rw [if_neg (by omega)]
  by_cases g : n < 0
  · have e : n = -((n.natAbs : Nat) : Int) := by omega
    simp only [g, decide_true, if_true]
    rw [e, sh_neg]; simp
  · have e : ((n.natAbs : Nat) : Int) = n := by omega
    simp only [g, decide_false, Bool.false_eq_true, if_false]
    rw [e]
theorem make_f {k : Nat} (hk : 10 ≤ k) (n s : Int) : deci_Make.f k n s = some (mk n s) := by
  have hj : ∀ b : Bool, b = decide (s < 0 ∨ 6 < s ∨ 999999999999 < n ∨ n < -999999999999) → deci_Make.j0 k n s b = some (mk n s) := by
    intro b hb
    obtain ⟨k, rfl⟩ := succ_of (show 0 < k by omega)
    simp only [deci_Make.j0]
    by_cases h : s < 0 ∨ 6 < s ∨ 999999999999 < n ∨ n < -999999999999
    · rw [if_pos (by rw [hb]; exact decide_eq_true h)]; unfold mk; rw [if_pos h]
    · rw [if_neg (by rw [hb, decide_eq_false h]; simp), mx_abs (by omega) (by omega), dec_f (by omega) (by omega) (by omega) (by omega) (by omega)]
      simp only [Option.bind_some]
      rw [decS_mk n s h]
  unfold deci_Make.f
  by_cases h1 : s < 0
  · rw [if_pos h1]; exact hj _ (decide_eq_true (by omega)).symm
  rw [if_neg h1]
  by_cases h2 : s > 6
  · rw [if_pos h2]; exact hj _ (decide_eq_true (by omega)).symm
  rw [if_neg h2]
  by_cases h3 : n > 999999999999
  · rw [if_pos h3]; exact hj _ (decide_eq_true (by omega)).symm
  rw [if_neg h3]
  exact hj _ (by rw [decide_eq_decide]; omega)
theorem refmake_l0 (s : Nat) : ∀ (k : Nat) (n : Int), s < k → s ≤ 1000 → -9223372036854775808 ≤ n → n < 9223372036854775808 → soffitref01_Make.l0 k n s = some ((sh s n).1, (sh s n).2, 0) := by
  induction s with
  | zero =>
    intro k n hk _ _ _
    obtain ⟨k, rfl⟩ := succ_of (show 0 < k by omega)
    simp only [soffitref01_Make.l0]; rw [if_neg (by omega)]; rfl
  | succ s ih =>
    intro k n hk hs h0 h1
    obtain ⟨k, rfl⟩ := succ_of (show 0 < k by omega)
    simp only [soffitref01_Make.l0]
    rw [if_pos (by omega)]
    have e : Int.tmod n 10 = 0 ↔ n % 10 = 0 := by
      constructor
      · intro h; have := Int.dvd_of_tmod_eq_zero h; omega
      · intro h; exact Int.tmod_eq_zero_of_dvd (by omega)
    by_cases h : n % 10 = 0
    · have hd : Int.tdiv n 10 = n / 10 := Int.tdiv_eq_ediv_of_dvd (by omega)
      rw [if_pos (e.2 h), hd, w64 (by omega) (by omega), w64 (by omega) (by omega), show ((s + 1 : Nat) : Int) - 1 = (s : Int) by omega, ih k (n / 10) (by omega) (by omega) (by omega) (by omega)]
      simp only [sh, h, if_true]
    · rw [if_neg (fun g => h (e.1 g))]; simp only [sh, h, if_false]; rfl
theorem refmake_f {k : Nat} (hk : 10 ≤ k) (n s : Int) : soffitref01_Make.f k n s = some (mk n s) := by
  have hj : ∀ b : Bool, b = decide (s < 0 ∨ 6 < s ∨ 999999999999 < n ∨ n < -999999999999) → soffitref01_Make.j0 k n s b = some (mk n s) := by
    intro b hb
    obtain ⟨k, rfl⟩ := succ_of (show 0 < k by omega)
    simp only [soffitref01_Make.j0]
    by_cases h : s < 0 ∨ 6 < s ∨ 999999999999 < n ∨ n < -999999999999
    · rw [if_pos (by rw [hb]; exact decide_eq_true h)]; unfold mk; rw [if_pos h]
    · rw [if_neg (by rw [hb, decide_eq_false h]; simp)]
      obtain ⟨t, rfl⟩ := Int.eq_ofNat_of_zero_le (show 0 ≤ s by omega)
      rw [refmake_l0 t k n (by omega) (by omega) (by omega) (by omega)]
      unfold mk; rw [if_neg h, Int.toNat_natCast]
  unfold soffitref01_Make.f
  by_cases h1 : s < 0
  · rw [if_pos h1]; exact hj _ (decide_eq_true (by omega)).symm
  rw [if_neg h1]
  by_cases h2 : s > 6
  · rw [if_pos h2]; exact hj _ (decide_eq_true (by omega)).symm
  rw [if_neg h2]
  by_cases h3 : n > 999999999999
  · rw [if_pos h3]; exact hj _ (decide_eq_true (by omega)).symm
  rw [if_neg h3]
  exact hj _ (by rw [decide_eq_decide]; omega)
theorem sound_f {k : Nat} (hk : 10 ≤ k) (n s : Int) : deci_Sound.f k n s = some (decide (Snd n s)) := by
  unfold deci_Sound.f
  rw [make_f hk]; simp only [Option.bind_some]
  by_cases h : Snd n s
  · rw [mk_sound n s h]; simp [h]
  · have hu := mk_unsound n s h
    by_cases e : (mk n s).2.2 = 0
    · rw [if_pos e]; simp only [h, decide_false, Option.some.injEq, Bool.and_eq_false_iff, beq_eq_false_iff_ne]
      by_cases e1 : (mk n s).1 = n
      · right; intro e2; exact hu ⟨e, e1, e2⟩
      · left; exact e1
    · rw [if_neg e]; simp [h]
theorem refsound_f {k : Nat} (hk : 10 ≤ k) (n s : Int) : soffitref01_Sound.f k n s = some (decide (Snd n s)) := by
  unfold soffitref01_Sound.f
  rw [refmake_f hk]; simp only [Option.bind_some]
  by_cases h : Snd n s
  · rw [mk_sound n s h]; simp [h]
  · have hu := mk_unsound n s h
    by_cases e : (mk n s).2.2 = 0
    · rw [if_pos e]
      by_cases e1 : (mk n s).1 = n
      · rw [if_pos e1]; simp only [h, decide_false, Option.some.injEq, beq_eq_false_iff_ne]
        intro e2; exact hu ⟨e, e1, e2⟩
      · rw [if_neg e1]; simp [h]
    · rw [if_neg e]; simp [h]
theorem all_two {k : Nat} (hk : 15 ≤ k) (n s n' s' : Int) : deci_all.f k [⟨n, s⟩, ⟨n', s'⟩] = some (if Snd n s ∧ Snd n' s' then 0 else 2) := by
  obtain ⟨k, rfl⟩ : ∃ m, k = m + 3 := ⟨k - 3, by omega⟩
  have w1 : wrap64 (0 + 1) = 1 := w64 (by decide) (by decide)
  have w2 : wrap64 (1 + 1) = 2 := w64 (by decide) (by decide)
  unfold deci_all.f
  simp only [deci_all.l0, List.length_cons, List.length_nil, w1, w2]
  have e0 : rd_T23 [(⟨n, s⟩ : S23), ⟨n', s'⟩] 0 = ⟨n, s⟩ := rfl
  have e1 : rd_T23 [(⟨n, s⟩ : S23), ⟨n', s'⟩] 1 = ⟨n', s'⟩ := rfl
  rw [if_pos (by decide), if_pos (by decide), if_pos (by decide), e0, sound_f (by omega)]
  simp only [Option.bind_some, decide_eq_true_eq]
  by_cases h : Snd n s
  · rw [if_pos h, if_pos (by decide), if_pos (by decide), if_pos (by decide), e1, sound_f (by omega)]
    simp only [Option.bind_some, decide_eq_true_eq]
    by_cases h' : Snd n' s'
    · rw [if_pos h', if_neg (by decide)]; simp only [h, h', and_self, if_true]
    · rw [if_neg h']; simp only [h, h', and_false, if_false]
  · rw [if_neg h]; simp only [h, false_and, if_false]
theorem size_f {n s : Int} (h : Snd n s) : deci_size.f n s = some (n.natAbs : Int) := by
  obtain ⟨_, _, h1, h2, _⟩ := h
  unfold deci_size.f; rw [mx_abs (by omega) (by omega)]
theorem power_l0 (d : Nat) : ∀ (k i : Nat), d < k → i + d ≤ 18 → deci_power.l0 k (10 ^ i) ((i + d : Nat) : Int) (i : Int) = some (10 ^ (i + d)) := by
  have hp : ∀ j : Nat, j ≤ 18 → (10 : Int) ^ j ≤ 1000000000000000000 := fun j h => by
    have h1 : (10 : Int) ^ 18 = 10 ^ j * 10 ^ (18 - j) := by rw [← Int.pow_add]; congr 1; omega
    have h2 := pow_pos j; have h3 := pow_pos (18 - j)
    have h4 : 10 ^ j * 1 ≤ (10 : Int) ^ j * 10 ^ (18 - j) := Int.mul_le_mul_of_nonneg_left (by omega) (by omega)
    have h5 : (10 : Int) ^ 18 = 1000000000000000000 := by decide
    omega
  induction d with
  | zero =>
    intro k i hk hi
    obtain ⟨k, rfl⟩ := succ_of (show 0 < k by omega)
    simp only [deci_power.l0]; rw [if_neg (by omega)]; simp
  | succ d ih =>
    intro k i hk hi
    obtain ⟨k, rfl⟩ := succ_of (show 0 < k by omega)
    simp only [deci_power.l0]
    have h1 := hp (i + 1) (by omega); have h2 := pow_pos (i + 1)
    rw [if_pos (by omega), ← Int.pow_succ, wu64 (by omega) (by omega), w64 (by omega) (by omega)]
    have := ih k (i + 1) (by omega) (by omega)
    rw [show ((i + 1 : Nat) : Int) = (i : Int) + 1 by omega, show i + 1 + d = i + (d + 1) by omega] at this
    exact this
theorem power_f {k : Nat} (hk : 20 ≤ k) {n : Int} (h0 : 0 ≤ n) (h1 : n ≤ 18) : deci_power.f k n = some (10 ^ n.toNat) := by
  obtain ⟨t, rfl⟩ := Int.eq_ofNat_of_zero_le h0
  have := power_l0 t k 0 (by omega) (by omega)
  simp only [Nat.zero_add, Int.pow_zero] at this
  unfold deci_power.f; rw [Int.toNat_natCast]; exact this
end Go.Proofs.YtgkemhgihbfmmaaDoor.PA
end
