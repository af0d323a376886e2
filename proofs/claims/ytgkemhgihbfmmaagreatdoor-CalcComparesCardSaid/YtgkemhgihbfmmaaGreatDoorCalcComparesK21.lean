/- Part 22 of the proof for CalcCompares: functions of the program as plain Lean functions, their calls, and what they come to. -/
import Derived.Lib.OwnBridge
import Derived.Deep.LoopGhost
import Derived.Test.YtgkemhgihbfmmaaGreatDoorCalcComparesK18
import Derived.Test.YtgkemhgihbfmmaaGreatDoorCalcComparesK20
import Derived.Test.YtgkemhgihbfmmaaGreatDoorCalcComparesK17
import Derived.Test.YtgkemhgihbfmmaaGreatDoorCalcComparesK19
set_option linter.unusedVariables false
set_option linter.unusedSimpArgs false
section
namespace Go.Proofs.YtgkemhgihbfmmaaGreatDoor.PA
open Go.RowKit Go.Proofs.YtgkemhgihbfmmaaGreatDoorW.PrintWords Go.Proofs.YtgkemhgihbfmmaaGreatDoorW.PrintLast Go.Proofs.YtgkemhgihbfmmaaGreatDoorW.PrintMore
attribute [local go_sem] max2_int min2_int max_two min_two max_three min_three max_four min_four isSome_set str_gtr
set_option linter.unusedVariables false
set_option linter.unusedSimpArgs false
def calc_scope_eval.f : Nat → List (S27) → Int → Int → Int → Int → ByteArray → Int → ByteArray → List (S31) → Option (Int × Int × Int × ByteArray × Int)
 | 0, _, _, _, _, _, _, _, _, _ => none
 | k + 1, l0, a1_0, a1_1, a1_2, a1_3, a1_4, a1_5, a1_6, l1_7 => if a1_0 = 1 then (some (a1_1, a1_2, a1_3, a1_4, a1_5)) else (if a1_0 = 2 then ((standin_IndexName.f l0 a1_0 a1_1 a1_2 a1_3 a1_4 a1_5 a1_6 l1_7).bind fun t884 => (if 0 ≤ t884 then (if t884 < (l0.length : Int) then (some ((rd_T27 l0 t884).f1.f0, (rd_T27 l0 t884).f1.f1.f0, (rd_T27 l0 t884).f1.f1.f1, (rd_T27 l0 t884).f1.f2, (rd_T27 l0 t884).f1.f3)) else (none)) else (none))) else (if a1_0 = 17 then (if 0 < (l1_7.length : Int) then ((calc_scope_eval.f k l0 ((rd_T31 l1_7 0).f0) ((rd_T31 l1_7 0).f1.f0) ((rd_T31 l1_7 0).f1.f1.f0) ((rd_T31 l1_7 0).f1.f1.f1) ((rd_T31 l1_7 0).f1.f2) ((rd_T31 l1_7 0).f1.f3) ((rd_T31 l1_7 0).f2) ((rd_T31 l1_7 0).f3)).bind fun bt887 => ((logic_Is.f bt887.1 bt887.2.1 bt887.2.2.1 bt887.2.2.2.1 bt887.2.2.2.2).bind fun t892 => (if t892 = true then (if 1 < (l1_7.length : Int) then ((calc_scope_eval.f k l0 ((rd_T31 l1_7 1).f0) ((rd_T31 l1_7 1).f1.f0) ((rd_T31 l1_7 1).f1.f1.f0) ((rd_T31 l1_7 1).f1.f1.f1) ((rd_T31 l1_7 1).f1.f2) ((rd_T31 l1_7 1).f1.f3) ((rd_T31 l1_7 1).f2) ((rd_T31 l1_7 1).f3)).bind fun bt894 => (some (bt894.1, bt894.2.1, bt894.2.2.1, bt894.2.2.2.1, bt894.2.2.2.2))) else (none)) else (if 2 < (l1_7.length : Int) then ((calc_scope_eval.f k l0 ((rd_T31 l1_7 2).f0) ((rd_T31 l1_7 2).f1.f0) ((rd_T31 l1_7 2).f1.f1.f0) ((rd_T31 l1_7 2).f1.f1.f1) ((rd_T31 l1_7 2).f1.f2) ((rd_T31 l1_7 2).f1.f3) ((rd_T31 l1_7 2).f2) ((rd_T31 l1_7 2).f3)).bind fun bt900 => (some (bt900.1, bt900.2.1, bt900.2.2.1, bt900.2.2.2.1, bt900.2.2.2.2))) else (none))))) else (none)) else (if 0 < (l1_7.length : Int) then ((calc_scope_eval.f k l0 ((rd_T31 l1_7 0).f0) ((rd_T31 l1_7 0).f1.f0) ((rd_T31 l1_7 0).f1.f1.f0) ((rd_T31 l1_7 0).f1.f1.f1) ((rd_T31 l1_7 0).f1.f2) ((rd_T31 l1_7 0).f1.f3) ((rd_T31 l1_7 0).f2) ((rd_T31 l1_7 0).f3)).bind fun bt906 => (if a1_0 = 3 then (none) else (if a1_0 = 16 then (none) else (if 1 < (l1_7.length : Int) then ((calc_scope_eval.f k l0 ((rd_T31 l1_7 1).f0) ((rd_T31 l1_7 1).f1.f0) ((rd_T31 l1_7 1).f1.f1.f0) ((rd_T31 l1_7 1).f1.f1.f1) ((rd_T31 l1_7 1).f1.f2) ((rd_T31 l1_7 1).f1.f3) ((rd_T31 l1_7 1).f2) ((rd_T31 l1_7 1).f3)).bind fun bt913 => (if a1_0 = 8 then (none) else (if a1_0 = 9 then (none) else (if a1_0 = 10 then (none) else (if a1_0 = 12 then ((calc_Less.f k bt913.1 bt913.2.1 bt913.2.2.1 bt913.2.2.2.1 bt913.2.2.2.2 bt906.1 bt906.2.1 bt906.2.2.1 bt906.2.2.2.1 bt906.2.2.2.2).bind fun bt919 => (some (bt919.1, bt919.2.1, bt919.2.2.1, bt919.2.2.2.1, bt919.2.2.2.2))) else (if a1_0 = 11 then (none) else (if a1_0 = 13 then (none) else (if a1_0 = 14 then (none) else (if a1_0 = 15 then (none) else ((calc_reckon.f k a1_0 bt906.1 bt906.2.1 bt906.2.2.1 bt906.2.2.2.1 bt906.2.2.2.2 bt913.1 bt913.2.1 bt913.2.2.1 bt913.2.2.2.1 bt913.2.2.2.2).bind fun bt930 => (some (bt930.1, bt930.2.1, bt930.2.2.1, bt930.2.2.2.1, bt930.2.2.2.2)))))))))))) else (none))))) else (none))))
theorem calc_scope_eval.mono_l : ∀ k, (∀ y0 y1 y2 y3 y4 y5 y6 y7 y8, LeO (calc_scope_eval.f k y0 y1 y2 y3 y4 y5 y6 y7 y8) (calc_scope_eval.f (k + 1) y0 y1 y2 y3 y4 y5 y6 y7 y8))
 | 0 => fun _ _ _ _ _ _ _ _ _ r h => by simp [calc_scope_eval.f] at h
 | k + 1 => by
  have ih0 := calc_scope_eval.mono_l k
  ·intro y0 y1 y2 y3 y4 y5 y6 y7 y8
   unfold calc_scope_eval.f
   have q0 := @calc_Less.mono; have q1 := @calc_reckon.mono; exact lmo
theorem calc_scope_eval.mono : ∀ a0 a1 a2 a3 a4 a5 a6 a7 a8 k, LeO (calc_scope_eval.f k a0 a1 a2 a3 a4 a5 a6 a7 a8) (calc_scope_eval.f (k + 1) a0 a1 a2 a3 a4 a5 a6 a7 a8) := by
 intro a0 a1 a2 a3 a4 a5 a6 a7 a8 k
 have ih0 := calc_scope_eval.mono_l k
 exact ih0 a0 a1 a2 a3 a4 a5 a6 a7 a8
set_option maxHeartbeats 8000000 in
set_option maxRecDepth 100000 in
theorem calc_scope_eval.calls (k : Nat) : ∀ (A0 : Option Addr) (c0 : Nat) (l0 : List (S27)) (a1_0 a1_1 a1_2 a1_3 : Int) (a1_4 : ByteArray) (a1_5 : Int) (a1_6 : ByteArray) (A1_7 : Option Addr) (c1_7 : Nat) (l1_7 : List (S31)) (r1 r2 r3 : Int) (r4 : ByteArray) (r5 : Int) (w : World) (hr0 : Kd.C k27 w A0 l0.length l0) (hc0 : l0.length ≤ c0) (hr1_7 : Kd.C k31 w A1_7 l1_7.length l1_7) (hc1_7 : l1_7.length ≤ c1_7) (hT : Tabs w) (h : calc_scope_eval.f k l0 a1_0 a1_1 a1_2 a1_3 a1_4 a1_5 a1_6 l1_7 = some (r1, r2, r3, r4, r5)),
  Calls Tryz.prog 41 #[.slice A0 l0.length c0, .agg #[.int .i64 a1_0, .int .i64 a1_1, .int .i64 a1_2, .int .i64 a1_3, .string a1_4, .int .i64 a1_5, .string a1_6, .slice A1_7 l1_7.length c1_7]] w fun e w' => e = .returned (.agg #[.int .i64 r1, .int .i64 r2, .int .i64 r3, .string r4, .int .i64 r5]) ∧ Below w.heap.size w w' := by
 induction k using Nat.strongRecOn with
 | _ k ih =>
 intro A0 c0 l0 a1_0 a1_1 a1_2 a1_3 a1_4 a1_5 a1_6 A1_7 c1_7 l1_7 r1 r2 r3 r4 r5 w hr0 hc0 hr1_7 hc1_7 hT h
 cases k with
 | zero => exact absurd h (by simp [calc_scope_eval.f])
 | succ k =>
 simp only [calc_scope_eval.f] at h
 have hu31 := Tryz.underlying31
 have hu25 := Tryz.underlying25
 have HT := am hT
 clear hT
 have HR0 := am hr0
 have HC0 := am hc0
 clear hr0 hc0
 have HR1_7 := am hr1_7
 have HC1_7 := am hc1_7
 clear hr1_7 hc1_7
 have HB := am (Below.refl w.heap.size w)
 have H : (if a1_0 = 1 then (some (a1_1, a1_2, a1_3, a1_4, a1_5)) else (if a1_0 = 2 then ((standin_IndexName.f l0 a1_0 a1_1 a1_2 a1_3 a1_4 a1_5 a1_6 l1_7).bind fun t884 => (if 0 ≤ t884 then (if t884 < (l0.length : Int) then (some ((rd_T27 l0 t884).f1.f0, (rd_T27 l0 t884).f1.f1.f0, (rd_T27 l0 t884).f1.f1.f1, (rd_T27 l0 t884).f1.f2, (rd_T27 l0 t884).f1.f3)) else (none)) else (none))) else (if a1_0 = 17 then (if 0 < (l1_7.length : Int) then ((calc_scope_eval.f k l0 ((rd_T31 l1_7 0).f0) ((rd_T31 l1_7 0).f1.f0) ((rd_T31 l1_7 0).f1.f1.f0) ((rd_T31 l1_7 0).f1.f1.f1) ((rd_T31 l1_7 0).f1.f2) ((rd_T31 l1_7 0).f1.f3) ((rd_T31 l1_7 0).f2) ((rd_T31 l1_7 0).f3)).bind fun bt887 => ((logic_Is.f bt887.1 bt887.2.1 bt887.2.2.1 bt887.2.2.2.1 bt887.2.2.2.2).bind fun t892 => (if t892 = true then (if 1 < (l1_7.length : Int) then ((calc_scope_eval.f k l0 ((rd_T31 l1_7 1).f0) ((rd_T31 l1_7 1).f1.f0) ((rd_T31 l1_7 1).f1.f1.f0) ((rd_T31 l1_7 1).f1.f1.f1) ((rd_T31 l1_7 1).f1.f2) ((rd_T31 l1_7 1).f1.f3) ((rd_T31 l1_7 1).f2) ((rd_T31 l1_7 1).f3)).bind fun bt894 => (some (bt894.1, bt894.2.1, bt894.2.2.1, bt894.2.2.2.1, bt894.2.2.2.2))) else (none)) else (if 2 < (l1_7.length : Int) then ((calc_scope_eval.f k l0 ((rd_T31 l1_7 2).f0) ((rd_T31 l1_7 2).f1.f0) ((rd_T31 l1_7 2).f1.f1.f0) ((rd_T31 l1_7 2).f1.f1.f1) ((rd_T31 l1_7 2).f1.f2) ((rd_T31 l1_7 2).f1.f3) ((rd_T31 l1_7 2).f2) ((rd_T31 l1_7 2).f3)).bind fun bt900 => (some (bt900.1, bt900.2.1, bt900.2.2.1, bt900.2.2.2.1, bt900.2.2.2.2))) else (none))))) else (none)) else (if 0 < (l1_7.length : Int) then ((calc_scope_eval.f k l0 ((rd_T31 l1_7 0).f0) ((rd_T31 l1_7 0).f1.f0) ((rd_T31 l1_7 0).f1.f1.f0) ((rd_T31 l1_7 0).f1.f1.f1) ((rd_T31 l1_7 0).f1.f2) ((rd_T31 l1_7 0).f1.f3) ((rd_T31 l1_7 0).f2) ((rd_T31 l1_7 0).f3)).bind fun bt906 => (if a1_0 = 3 then (none) else (if a1_0 = 16 then (none) else (if 1 < (l1_7.length : Int) then ((calc_scope_eval.f k l0 ((rd_T31 l1_7 1).f0) ((rd_T31 l1_7 1).f1.f0) ((rd_T31 l1_7 1).f1.f1.f0) ((rd_T31 l1_7 1).f1.f1.f1) ((rd_T31 l1_7 1).f1.f2) ((rd_T31 l1_7 1).f1.f3) ((rd_T31 l1_7 1).f2) ((rd_T31 l1_7 1).f3)).bind fun bt913 => (if a1_0 = 8 then (none) else (if a1_0 = 9 then (none) else (if a1_0 = 10 then (none) else (if a1_0 = 12 then ((calc_Less.f k bt913.1 bt913.2.1 bt913.2.2.1 bt913.2.2.2.1 bt913.2.2.2.2 bt906.1 bt906.2.1 bt906.2.2.1 bt906.2.2.2.1 bt906.2.2.2.2).bind fun bt919 => (some (bt919.1, bt919.2.1, bt919.2.2.1, bt919.2.2.2.1, bt919.2.2.2.2))) else (if a1_0 = 11 then (none) else (if a1_0 = 13 then (none) else (if a1_0 = 14 then (none) else (if a1_0 = 15 then (none) else ((calc_reckon.f k a1_0 bt906.1 bt906.2.1 bt906.2.2.1 bt906.2.2.2.1 bt906.2.2.2.2 bt913.1 bt913.2.1 bt913.2.2.1 bt913.2.2.2.1 bt913.2.2.2.2).bind fun bt930 => (some (bt930.1, bt930.2.1, bt930.2.2.1, bt930.2.2.2.1, bt930.2.2.2.2)))))))))))) else (none))))) else (none))))) = some (r1, r2, r3, r4, r5) := h
 clear h
 have HC3 := am H
 clear H
 go_enter Tryz.func41, Tryz.ntmps41
 go_upto_if 10 with (first | ((with_reducible refine gate_dst (N := 3) rfl ?_); refine bev (#[.int .i64 a1_0, .int .i64 a1_1, .int .i64 a1_2, .int .i64 a1_3, .string a1_4, .int .i64 a1_5, .string a1_6, .slice A1_7 l1_7.length c1_7]) 31 ?_; intro gb882 hg w4 hbox hb; have BK882 := am (hbox); have GW882 := gs hg HB; have GE882 := GW882; replace HB := sb HB hb; clear hb hbox hg) | ((with_reducible refine gate_dst (N := 4) rfl ?_); refine bev (#[.int .i64 0, .int .i64 0, .int .i64 0, .string (⟨#[]⟩ : ByteArray), .int .i64 0]) 25 ?_; intro gb883 hg w5 hbox hb; have BK883 := am (hbox); have GW883 := gs hg HB; have GE883 := GW883; replace HB := sb HB hb; have NB882_883 := na hg BK882; have NB883_882 := nb hg BK882; replace BK882 := kb BK882 hb; clear hb hbox hg; have hnb6 := NB882_883.out; have hnc6 := NB883_882.out; obtain ⟨Z7_0, Z7_1, Z7_2, Z7_3, Z7_4, Z7_5, Z7_6, Z7_7, F7_0, F7_1, F7_2, F7_3, F7_4, F7_5, F7_6, F7_7⟩ := cz8 BK882.out))
 (try simp only [Act.put, List.setIfInBounds_toArray, List.set_cons_zero, List.set_cons_succ])
 have H := HC3.out
 clear HC3
 clear Z7_0 Z7_1 Z7_2 Z7_3 Z7_4 Z7_5 Z7_6 Z7_7 F7_0 F7_1 F7_2 F7_3 F7_4 F7_5 F7_6 F7_7
 by_cases c8 : a1_0 = 1
 ·replace H := ipe c8 H
  obtain ⟨H, c8b0, c8b1⟩ := H
  clear c8
  (first | rw [c8b0] | (simp only [i64_w, i32_w]; rw [c8b0]) | skip)
  simp only [Option.some.injEq, Prod.mk.injEq] at H
  obtain ⟨rfl, rfl, rfl, rfl, rfl⟩ := H
  have hnb9 := NB882_883.out
  have hnc9 := NB883_882.out
  obtain ⟨Z10_0, Z10_1, Z10_2, Z10_3, Z10_4, Z10_5, Z10_6, Z10_7, F10_0, F10_1, F10_2, F10_3, F10_4, F10_5, F10_6, F10_7⟩ := cz8 BK882.out
  obtain ⟨Z11_0, Z11_1, Z11_2, Z11_3, Z11_4, F11_0, F11_1, F11_2, F11_3, F11_4⟩ := cz5 BK883.out
  go_wp2
  refine bodyPost_ret (results_cell_row rfl _ _ gb883 25 #[.int .i64 a1_1, .int .i64 a1_2, .int .i64 a1_3, .string a1_4, .int .i64 a1_5] (0, 0) _ rfl (bp BK883.out) Tryz.underlying25 rfl (by kernel_rfl)) rfl ?_
  exact ⟨az, bz HB.out⟩
 replace H := ine c8 H
 obtain ⟨H, c8b0, c8b1⟩ := H
 (first | rw [c8b0] | (simp only [i64_w, i32_w]; rw [c8b0]) | skip)
 by_cases c12 : a1_0 = 2
 ·replace H := ipe c12 H
  obtain ⟨H, c12b0, c12b1⟩ := H
  clear c12
  replace H := obe H
  obtain ⟨t884, A13, H⟩ := H
  by_cases c14 : 0 ≤ t884
  ·rw [if_pos c14] at H
   have c14b0 : decide (0 ≤ t884) = true := decide_eq_true c14
   clear c14
   by_cases c15 : t884 < (l0.length : Int)
   ·rw [if_pos c15] at H
    have c15b0 : decide (t884 < (l0.length : Int)) = true := decide_eq_true c15
    clear c15
    simp only [Option.some.injEq, Prod.mk.injEq] at H
    obtain ⟨rfl, rfl, rfl, rfl, rfl⟩ := H
    have hnb16 := NB882_883.out
    have hnc16 := NB883_882.out
    obtain ⟨Z17_0, Z17_1, Z17_2, Z17_3, Z17_4, Z17_5, Z17_6, Z17_7, F17_0, F17_1, F17_2, F17_3, F17_4, F17_5, F17_6, F17_7⟩ := cz8 BK882.out
    go_wp2_with (first | ((with_reducible refine gate_callee (f := 76) rfl ?_); refine gl_ (some 18) Tryz.func76 (by kernel_rfl) #[.slice A0 l0.length c0, .func (.func 77) #[] #[.pointer (some ⟨gb882, 0, none⟩)]] rfl ?_; (with_reducible refine (standin_IndexName.calls _ _ l0 a1_0 a1_1 a1_2 a1_3 a1_4 a1_5 a1_6 _ _ l1_7 t884 _ ?side1 ?side2 ?side3 ?side4 gb882 (bk BK882.out) A13.out).mono ?_); (case side1 => repeat (first | exact (Kd.C_below HR0.out HB.out) | (with_reducible refine Kd.C_alloc ?_ _) | (with_reducible refine Kd.C_drewN ?_ _) | (with_reducible refine Kd.C_drew ?_))); (case side2 => exact HC0.out); (case side3 => repeat (first | exact (Kd.C_below HR1_7.out HB.out) | (with_reducible refine Kd.C_alloc ?_ _) | (with_reducible refine Kd.C_drewN ?_ _) | (with_reducible refine Kd.C_drew ?_))); (case side4 => exact HC1_7.out); rintro e w18 ⟨rfl, hb⟩; refine ⟨_, rfl, ?_⟩; replace BK882 := kb BK882 hb; replace BK883 := kb BK883 hb; replace HB := sb HB hb; clear hb; have p885 : 0 ≤ (t884 : Int) := of_decide_eq_true tz; have q885 : t884 < (l0.length : Int) := of_decide_eq_true tz; obtain ⟨ad885, e885, hx885_0, hx885_1, hx885_2, hx885_3, hx885_4, hx885_5⟩ := at_T27 HR0.out t884 p885 q885; cases e885; replace hx885_0 := hbw HB.out hx885_0; replace hx885_1 := hbw HB.out hx885_1; replace hx885_2 := hbw HB.out hx885_2; replace hx885_3 := hbw HB.out hx885_3; replace hx885_4 := hbw HB.out hx885_4; replace hx885_5 := hbw HB.out hx885_5; replace p885 := eq_true p885; replace q885 := eq_true q885; obtain ⟨Z19_0, Z19_1, Z19_2, Z19_3, Z19_4, F19_0, F19_1, F19_2, F19_3, F19_4⟩ := cz5 BK883.out))
    refine bodyPost_ret (results_cell_row rfl _ _ gb883 25 #[.int .i64 ((rd_T27 l0 t884).f1.f0), .int .i64 ((rd_T27 l0 t884).f1.f1.f0), .int .i64 ((rd_T27 l0 t884).f1.f1.f1), .string ((rd_T27 l0 t884).f1.f2), .int .i64 ((rd_T27 l0 t884).f1.f3)] (0, 0) _ rfl (bp BK883.out) Tryz.underlying25 rfl (by kernel_rfl)) rfl ?_
    exact ⟨az, bz HB.out⟩
   rw [if_neg c15] at H
   exact absurd H (by simp)
  rw [if_neg c14] at H
  exact absurd H (by simp)
 replace H := ine c12 H
 obtain ⟨H, c12b0, c12b1⟩ := H
 by_cases c20 : a1_0 = 17
 ·replace H := ipe c20 H
  obtain ⟨H, c20b0, c20b1⟩ := H
  clear c20
  by_cases c21 : 0 < (l1_7.length : Int)
  ·rw [if_pos c21] at H
   have c21b0 : decide (0 < (l1_7.length : Int)) = true := decide_eq_true c21
   have c21b1 : decide (0 < l1_7.length) = true := decide_eq_true (by omega)
   clear c21
   replace H := obe5 H
   obtain ⟨t887, t888, t889, t890, t891, A22, H⟩ := H
   replace H := obe H
   obtain ⟨t892, A23, H⟩ := H
   have HC24 := am H
   clear H
   have hnb25 := NB882_883.out
   have hnc25 := NB883_882.out
   obtain ⟨Z26_0, Z26_1, Z26_2, Z26_3, Z26_4, Z26_5, Z26_6, Z26_7, F26_0, F26_1, F26_2, F26_3, F26_4, F26_5, F26_6, F26_7⟩ := cz8 BK882.out
   have p886 : 0 ≤ (0 : Int) := (by omega)
   have q886 : 0 < (l1_7.length : Int) := of_decide_eq_true tz
   obtain ⟨ad886, A886_7, c886_7, e886, hx886_0, hx886_1, hx886_2, hx886_3, hx886_4, hx886_5, hx886_6, hx886_7, hl886_7, hi886_7⟩ := at_T31 HR1_7.out 0 p886 q886
   cases e886
   have qi886 : (0 < l1_7.length) = True := eq_true (by omega)
   (try rw [show ((0 : Int)).toNat = 0 from rfl] at hx886_0)
   (try rw [show 0 * 8 = 0 from rfl] at hx886_0)
   (try rw [Addr.add_zero'] at hx886_0)
   (try rw [show ((0 : Int)).toNat = 0 from rfl] at hx886_1)
   (try rw [show 0 * 8 = 0 from rfl] at hx886_1)
   (try rw [Addr.add_zero'] at hx886_1)
   (try rw [show ((0 : Int)).toNat = 0 from rfl] at hx886_2)
   (try rw [show 0 * 8 = 0 from rfl] at hx886_2)
   (try rw [Addr.add_zero'] at hx886_2)
   (try rw [show ((0 : Int)).toNat = 0 from rfl] at hx886_3)
   (try rw [show 0 * 8 = 0 from rfl] at hx886_3)
   (try rw [Addr.add_zero'] at hx886_3)
   (try rw [show ((0 : Int)).toNat = 0 from rfl] at hx886_4)
   (try rw [show 0 * 8 = 0 from rfl] at hx886_4)
   (try rw [Addr.add_zero'] at hx886_4)
   (try rw [show ((0 : Int)).toNat = 0 from rfl] at hx886_5)
   (try rw [show 0 * 8 = 0 from rfl] at hx886_5)
   (try rw [Addr.add_zero'] at hx886_5)
   (try rw [show ((0 : Int)).toNat = 0 from rfl] at hx886_6)
   (try rw [show 0 * 8 = 0 from rfl] at hx886_6)
   (try rw [Addr.add_zero'] at hx886_6)
   (try rw [show ((0 : Int)).toNat = 0 from rfl] at hx886_7)
   (try rw [show 0 * 8 = 0 from rfl] at hx886_7)
   (try rw [Addr.add_zero'] at hx886_7)
   replace hx886_0 := hbw HB.out hx886_0
   replace hx886_1 := hbw HB.out hx886_1
   replace hx886_2 := hbw HB.out hx886_2
   replace hx886_3 := hbw HB.out hx886_3
   replace hx886_4 := hbw HB.out hx886_4
   replace hx886_5 := hbw HB.out hx886_5
   replace hx886_6 := hbw HB.out hx886_6
   replace hx886_7 := hbw HB.out hx886_7
   have HR886_7 := am hi886_7
   have HC886_7 := am hl886_7
   clear hi886_7 hl886_7
   replace p886 := eq_true p886
   replace q886 := eq_true q886
   go_upto_if 32 with (first | ((with_reducible refine gate_callee (f := 41) rfl ?_); refine gl_ (some 31) Tryz.func41 (by kernel_rfl) #[.slice A0 l0.length c0, .agg #[.int .i64 ((rd_T31 l1_7 0).f0), .int .i64 ((rd_T31 l1_7 0).f1.f0), .int .i64 ((rd_T31 l1_7 0).f1.f1.f0), .int .i64 ((rd_T31 l1_7 0).f1.f1.f1), .string ((rd_T31 l1_7 0).f1.f2), .int .i64 ((rd_T31 l1_7 0).f1.f3), .string ((rd_T31 l1_7 0).f2), .slice A886_7 ((rd_T31 l1_7 0).f3).length c886_7]] rfl ?_; (with_reducible refine (ih k (by omega) _ _ l0 ((rd_T31 l1_7 0).f0) ((rd_T31 l1_7 0).f1.f0) ((rd_T31 l1_7 0).f1.f1.f0) ((rd_T31 l1_7 0).f1.f1.f1) ((rd_T31 l1_7 0).f1.f2) ((rd_T31 l1_7 0).f1.f3) ((rd_T31 l1_7 0).f2) _ _ ((rd_T31 l1_7 0).f3) t887 t888 t889 t890 t891 _ ?side1 ?side2 ?side3 ?side4 ?side5 A22.out).mono ?_); (case side1 => repeat (first | exact (Kd.C_below HR0.out HB.out) | (with_reducible refine Kd.C_alloc ?_ _) | (with_reducible refine Kd.C_drewN ?_ _) | (with_reducible refine Kd.C_drew ?_))); (case side2 => exact HC0.out); (case side3 => repeat (first | exact (Kd.C_below HR886_7.out HB.out) | (with_reducible refine Kd.C_alloc ?_ _) | (with_reducible refine Kd.C_drewN ?_ _) | (with_reducible refine Kd.C_drew ?_))); (case side4 => exact HC886_7.out); (case side5 => exact tabs_of HT.out (bz HB.out)); rintro e w27 ⟨rfl, hb⟩; refine ⟨_, rfl, ?_⟩; replace BK882 := kb BK882 hb; replace BK883 := kb BK883 hb; replace HB := sb HB hb; clear hb) | ((with_reducible refine gate_callee (f := 78) rfl ?_); refine gl_ (some 32) Tryz.func78 (by kernel_rfl) #[.agg #[.int .i64 t887, .int .i64 t888, .int .i64 t889, .string t890, .int .i64 t891]] rfl ?_; (with_reducible refine (logic_Is.calls t887 t888 t889 t890 t891 t892 _ A23.out).mono ?_); rintro e w28 ⟨rfl, hb⟩; refine ⟨_, rfl, ?_⟩; replace BK882 := kb BK882 hb; replace BK883 := kb BK883 hb; replace HB := sb HB hb; clear hb))
   (try simp only [Act.put, List.setIfInBounds_toArray, List.set_cons_zero, List.set_cons_succ])
   have H := HC24.out
   clear HC24
   clear Z26_0 Z26_1 Z26_2 Z26_3 Z26_4 Z26_5 Z26_6 Z26_7 F26_0 F26_1 F26_2 F26_3 F26_4 F26_5 F26_6 F26_7 hx886_0 hx886_1 hx886_2 hx886_3 hx886_4 hx886_5 hx886_6 hx886_7
   by_cases c29 : t892 = true
   ·subst c29
    (try simp only [Bool.not_true, Bool.not_false])
    replace H := ift H
    by_cases c30 : 1 < (l1_7.length : Int)
    ·rw [if_pos c30] at H
     have c30b0 : decide (1 < (l1_7.length : Int)) = true := decide_eq_true c30
     have c30b1 : decide (1 < l1_7.length) = true := decide_eq_true (by omega)
     clear c30
     (first | rw [c30b0] | (simp only [i64_w, i32_w]; rw [c30b0]) | skip)
     replace H := obe5 H
     obtain ⟨t894, t895, t896, t897, t898, A31, H⟩ := H
     simp only [Option.some.injEq, Prod.mk.injEq] at H
     obtain ⟨rfl, rfl, rfl, rfl, rfl⟩ := H
     have hnb32 := NB882_883.out
     have hnc32 := NB883_882.out
     obtain ⟨Z33_0, Z33_1, Z33_2, Z33_3, Z33_4, Z33_5, Z33_6, Z33_7, F33_0, F33_1, F33_2, F33_3, F33_4, F33_5, F33_6, F33_7⟩ := cz8 BK882.out
     have p893 : 0 ≤ (1 : Int) := (by omega)
     have q893 : 1 < (l1_7.length : Int) := of_decide_eq_true tz
     obtain ⟨ad893, A893_7, c893_7, e893, hx893_0, hx893_1, hx893_2, hx893_3, hx893_4, hx893_5, hx893_6, hx893_7, hl893_7, hi893_7⟩ := at_T31 HR1_7.out 1 p893 q893
     obtain rfl : ad886 = ad893 := (by injection e893)
     (try simp only [show (1 : Int).toNat = 1 from rfl, Nat.reduceMul, Nat.reduceEqDiff, Go.Addr.add, ↓reduceIte] at hx893_0)
     (try simp only [show (1 : Int).toNat = 1 from rfl, Nat.reduceMul, Nat.reduceEqDiff, Go.Addr.add, ↓reduceIte] at hx893_1)
     (try simp only [show (1 : Int).toNat = 1 from rfl, Nat.reduceMul, Nat.reduceEqDiff, Go.Addr.add, ↓reduceIte] at hx893_2)
     (try simp only [show (1 : Int).toNat = 1 from rfl, Nat.reduceMul, Nat.reduceEqDiff, Go.Addr.add, ↓reduceIte] at hx893_3)
     (try simp only [show (1 : Int).toNat = 1 from rfl, Nat.reduceMul, Nat.reduceEqDiff, Go.Addr.add, ↓reduceIte] at hx893_4)
     (try simp only [show (1 : Int).toNat = 1 from rfl, Nat.reduceMul, Nat.reduceEqDiff, Go.Addr.add, ↓reduceIte] at hx893_5)
     (try simp only [show (1 : Int).toNat = 1 from rfl, Nat.reduceMul, Nat.reduceEqDiff, Go.Addr.add, ↓reduceIte] at hx893_6)
     (try simp only [show (1 : Int).toNat = 1 from rfl, Nat.reduceMul, Nat.reduceEqDiff, Go.Addr.add, ↓reduceIte] at hx893_7)
     have qi893 : (1 < l1_7.length) = True := eq_true (by omega)
     (try rw [show ((1 : Int)).toNat = 1 from rfl] at hx893_0)
     (try rw [show 1 * 8 = 8 from rfl] at hx893_0)
     (try rw [show ((1 : Int)).toNat = 1 from rfl] at hx893_1)
     (try rw [show 1 * 8 = 8 from rfl] at hx893_1)
     (try rw [show ((1 : Int)).toNat = 1 from rfl] at hx893_2)
     (try rw [show 1 * 8 = 8 from rfl] at hx893_2)
     (try rw [show ((1 : Int)).toNat = 1 from rfl] at hx893_3)
     (try rw [show 1 * 8 = 8 from rfl] at hx893_3)
     (try rw [show ((1 : Int)).toNat = 1 from rfl] at hx893_4)
     (try rw [show 1 * 8 = 8 from rfl] at hx893_4)
     (try rw [show ((1 : Int)).toNat = 1 from rfl] at hx893_5)
     (try rw [show 1 * 8 = 8 from rfl] at hx893_5)
     (try rw [show ((1 : Int)).toNat = 1 from rfl] at hx893_6)
     (try rw [show 1 * 8 = 8 from rfl] at hx893_6)
     (try rw [show ((1 : Int)).toNat = 1 from rfl] at hx893_7)
     (try rw [show 1 * 8 = 8 from rfl] at hx893_7)
     replace hx893_0 := hbw HB.out hx893_0
     replace hx893_1 := hbw HB.out hx893_1
     replace hx893_2 := hbw HB.out hx893_2
     replace hx893_3 := hbw HB.out hx893_3
     replace hx893_4 := hbw HB.out hx893_4
     replace hx893_5 := hbw HB.out hx893_5
     replace hx893_6 := hbw HB.out hx893_6
     replace hx893_7 := hbw HB.out hx893_7
     have HR893_7 := am hi893_7
     have HC893_7 := am hl893_7
     clear hi893_7 hl893_7
     replace p893 := eq_true p893
     replace q893 := eq_true q893
     go_wp2_with (first | ((with_reducible refine gate_callee (f := 41) rfl ?_); refine gl_ (some 38) Tryz.func41 (by kernel_rfl) #[.slice A0 l0.length c0, .agg #[.int .i64 ((rd_T31 l1_7 1).f0), .int .i64 ((rd_T31 l1_7 1).f1.f0), .int .i64 ((rd_T31 l1_7 1).f1.f1.f0), .int .i64 ((rd_T31 l1_7 1).f1.f1.f1), .string ((rd_T31 l1_7 1).f1.f2), .int .i64 ((rd_T31 l1_7 1).f1.f3), .string ((rd_T31 l1_7 1).f2), .slice A893_7 ((rd_T31 l1_7 1).f3).length c893_7]] rfl ?_; (with_reducible refine (ih k (by omega) _ _ l0 ((rd_T31 l1_7 1).f0) ((rd_T31 l1_7 1).f1.f0) ((rd_T31 l1_7 1).f1.f1.f0) ((rd_T31 l1_7 1).f1.f1.f1) ((rd_T31 l1_7 1).f1.f2) ((rd_T31 l1_7 1).f1.f3) ((rd_T31 l1_7 1).f2) _ _ ((rd_T31 l1_7 1).f3) t894 t895 t896 t897 t898 _ ?side1 ?side2 ?side3 ?side4 ?side5 A31.out).mono ?_); (case side1 => repeat (first | exact (Kd.C_below HR0.out HB.out) | (with_reducible refine Kd.C_alloc ?_ _) | (with_reducible refine Kd.C_drewN ?_ _) | (with_reducible refine Kd.C_drew ?_))); (case side2 => exact HC0.out); (case side3 => repeat (first | exact (Kd.C_below HR893_7.out HB.out) | (with_reducible refine Kd.C_alloc ?_ _) | (with_reducible refine Kd.C_drewN ?_ _) | (with_reducible refine Kd.C_drew ?_))); (case side4 => exact HC893_7.out); (case side5 => exact tabs_of HT.out (bz HB.out)); rintro e w34 ⟨rfl, hb⟩; refine ⟨_, rfl, ?_⟩; replace BK882 := kb BK882 hb; replace BK883 := kb BK883 hb; replace HB := sb HB hb; clear hb; obtain ⟨Z35_0, Z35_1, Z35_2, Z35_3, Z35_4, F35_0, F35_1, F35_2, F35_3, F35_4⟩ := cz5 BK883.out))
     refine bodyPost_ret (results_cell_row rfl _ _ gb883 25 #[.int .i64 t894, .int .i64 t895, .int .i64 t896, .string t897, .int .i64 t898] (0, 0) _ rfl (bp BK883.out) Tryz.underlying25 rfl (by kernel_rfl)) rfl ?_
     exact ⟨az, bz HB.out⟩
    rw [if_neg c30] at H
    exact absurd H (by simp)
   replace c29 := Bool.eq_false_iff.mpr c29
   subst c29
   (try simp only [Bool.not_true, Bool.not_false])
   replace H := iff_ H
   by_cases c36 : 2 < (l1_7.length : Int)
   ·rw [if_pos c36] at H
    have c36b0 : decide (2 < (l1_7.length : Int)) = true := decide_eq_true c36
    have c36b1 : decide (2 < l1_7.length) = true := decide_eq_true (by omega)
    clear c36
    replace H := obe5 H
    obtain ⟨t900, t901, t902, t903, t904, A37, H⟩ := H
    simp only [Option.some.injEq, Prod.mk.injEq] at H
    obtain ⟨rfl, rfl, rfl, rfl, rfl⟩ := H
    have hnb38 := NB882_883.out
    have hnc38 := NB883_882.out
    obtain ⟨Z39_0, Z39_1, Z39_2, Z39_3, Z39_4, Z39_5, Z39_6, Z39_7, F39_0, F39_1, F39_2, F39_3, F39_4, F39_5, F39_6, F39_7⟩ := cz8 BK882.out
    have p899 : 0 ≤ (2 : Int) := (by omega)
    have q899 : 2 < (l1_7.length : Int) := of_decide_eq_true tz
    obtain ⟨ad899, A899_7, c899_7, e899, hx899_0, hx899_1, hx899_2, hx899_3, hx899_4, hx899_5, hx899_6, hx899_7, hl899_7, hi899_7⟩ := at_T31 HR1_7.out 2 p899 q899
    obtain rfl : ad886 = ad899 := (by injection e899)
    (try simp only [show (2 : Int).toNat = 2 from rfl, Nat.reduceMul, Nat.reduceEqDiff, Go.Addr.add, ↓reduceIte] at hx899_0)
    (try simp only [show (2 : Int).toNat = 2 from rfl, Nat.reduceMul, Nat.reduceEqDiff, Go.Addr.add, ↓reduceIte] at hx899_1)
    (try simp only [show (2 : Int).toNat = 2 from rfl, Nat.reduceMul, Nat.reduceEqDiff, Go.Addr.add, ↓reduceIte] at hx899_2)
    (try simp only [show (2 : Int).toNat = 2 from rfl, Nat.reduceMul, Nat.reduceEqDiff, Go.Addr.add, ↓reduceIte] at hx899_3)
    (try simp only [show (2 : Int).toNat = 2 from rfl, Nat.reduceMul, Nat.reduceEqDiff, Go.Addr.add, ↓reduceIte] at hx899_4)
    (try simp only [show (2 : Int).toNat = 2 from rfl, Nat.reduceMul, Nat.reduceEqDiff, Go.Addr.add, ↓reduceIte] at hx899_5)
    (try simp only [show (2 : Int).toNat = 2 from rfl, Nat.reduceMul, Nat.reduceEqDiff, Go.Addr.add, ↓reduceIte] at hx899_6)
    (try simp only [show (2 : Int).toNat = 2 from rfl, Nat.reduceMul, Nat.reduceEqDiff, Go.Addr.add, ↓reduceIte] at hx899_7)
    have qi899 : (2 < l1_7.length) = True := eq_true (by omega)
    (try rw [show ((2 : Int)).toNat = 2 from rfl] at hx899_0)
    (try rw [show 2 * 8 = 16 from rfl] at hx899_0)
    (try rw [show ((2 : Int)).toNat = 2 from rfl] at hx899_1)
    (try rw [show 2 * 8 = 16 from rfl] at hx899_1)
    (try rw [show ((2 : Int)).toNat = 2 from rfl] at hx899_2)
    (try rw [show 2 * 8 = 16 from rfl] at hx899_2)
    (try rw [show ((2 : Int)).toNat = 2 from rfl] at hx899_3)
    (try rw [show 2 * 8 = 16 from rfl] at hx899_3)
    (try rw [show ((2 : Int)).toNat = 2 from rfl] at hx899_4)
    (try rw [show 2 * 8 = 16 from rfl] at hx899_4)
    (try rw [show ((2 : Int)).toNat = 2 from rfl] at hx899_5)
    (try rw [show 2 * 8 = 16 from rfl] at hx899_5)
    (try rw [show ((2 : Int)).toNat = 2 from rfl] at hx899_6)
    (try rw [show 2 * 8 = 16 from rfl] at hx899_6)
    (try rw [show ((2 : Int)).toNat = 2 from rfl] at hx899_7)
    (try rw [show 2 * 8 = 16 from rfl] at hx899_7)
    replace hx899_0 := hbw HB.out hx899_0
    replace hx899_1 := hbw HB.out hx899_1
    replace hx899_2 := hbw HB.out hx899_2
    replace hx899_3 := hbw HB.out hx899_3
    replace hx899_4 := hbw HB.out hx899_4
    replace hx899_5 := hbw HB.out hx899_5
    replace hx899_6 := hbw HB.out hx899_6
    replace hx899_7 := hbw HB.out hx899_7
    have HR899_7 := am hi899_7
    have HC899_7 := am hl899_7
    clear hi899_7 hl899_7
    replace p899 := eq_true p899
    replace q899 := eq_true q899
    go_wp2_with (first | ((with_reducible refine gate_callee (f := 41) rfl ?_); refine gl_ (some 44) Tryz.func41 (by kernel_rfl) #[.slice A0 l0.length c0, .agg #[.int .i64 ((rd_T31 l1_7 2).f0), .int .i64 ((rd_T31 l1_7 2).f1.f0), .int .i64 ((rd_T31 l1_7 2).f1.f1.f0), .int .i64 ((rd_T31 l1_7 2).f1.f1.f1), .string ((rd_T31 l1_7 2).f1.f2), .int .i64 ((rd_T31 l1_7 2).f1.f3), .string ((rd_T31 l1_7 2).f2), .slice A899_7 ((rd_T31 l1_7 2).f3).length c899_7]] rfl ?_; (with_reducible refine (ih k (by omega) _ _ l0 ((rd_T31 l1_7 2).f0) ((rd_T31 l1_7 2).f1.f0) ((rd_T31 l1_7 2).f1.f1.f0) ((rd_T31 l1_7 2).f1.f1.f1) ((rd_T31 l1_7 2).f1.f2) ((rd_T31 l1_7 2).f1.f3) ((rd_T31 l1_7 2).f2) _ _ ((rd_T31 l1_7 2).f3) t900 t901 t902 t903 t904 _ ?side1 ?side2 ?side3 ?side4 ?side5 A37.out).mono ?_); (case side1 => repeat (first | exact (Kd.C_below HR0.out HB.out) | (with_reducible refine Kd.C_alloc ?_ _) | (with_reducible refine Kd.C_drewN ?_ _) | (with_reducible refine Kd.C_drew ?_))); (case side2 => exact HC0.out); (case side3 => repeat (first | exact (Kd.C_below HR899_7.out HB.out) | (with_reducible refine Kd.C_alloc ?_ _) | (with_reducible refine Kd.C_drewN ?_ _) | (with_reducible refine Kd.C_drew ?_))); (case side4 => exact HC899_7.out); (case side5 => exact tabs_of HT.out (bz HB.out)); rintro e w40 ⟨rfl, hb⟩; refine ⟨_, rfl, ?_⟩; replace BK882 := kb BK882 hb; replace BK883 := kb BK883 hb; replace HB := sb HB hb; clear hb; obtain ⟨Z41_0, Z41_1, Z41_2, Z41_3, Z41_4, F41_0, F41_1, F41_2, F41_3, F41_4⟩ := cz5 BK883.out))
    refine bodyPost_ret (results_cell_row rfl _ _ gb883 25 #[.int .i64 t900, .int .i64 t901, .int .i64 t902, .string t903, .int .i64 t904] (0, 0) _ rfl (bp BK883.out) Tryz.underlying25 rfl (by kernel_rfl)) rfl ?_
    exact ⟨az, bz HB.out⟩
   rw [if_neg c36] at H
   exact absurd H (by simp)
  rw [if_neg c21] at H
  exact absurd H (by simp)
 replace H := ine c20 H
 obtain ⟨H, c20b0, c20b1⟩ := H
 by_cases c42 : 0 < (l1_7.length : Int)
 ·rw [if_pos c42] at H
  have c42b0 : decide (0 < (l1_7.length : Int)) = true := decide_eq_true c42
  have c42b1 : decide (0 < l1_7.length) = true := decide_eq_true (by omega)
  clear c42
  replace H := obe5 H
  obtain ⟨t906, t907, t908, t909, t910, A43, H⟩ := H
  by_cases c44 : a1_0 = 3
  ·rw [if_pos c44] at H
   exact absurd H (by simp)
  replace H := ine c44 H
  obtain ⟨H, c44b0, c44b1⟩ := H
  have HC45 := am H
  clear H
  have hnb46 := NB882_883.out
  have hnc46 := NB883_882.out
  obtain ⟨Z47_0, Z47_1, Z47_2, Z47_3, Z47_4, Z47_5, Z47_6, Z47_7, F47_0, F47_1, F47_2, F47_3, F47_4, F47_5, F47_6, F47_7⟩ := cz8 BK882.out
  have p905 : 0 ≤ (0 : Int) := (by omega)
  have q905 : 0 < (l1_7.length : Int) := of_decide_eq_true tz
  obtain ⟨ad905, A905_7, c905_7, e905, hx905_0, hx905_1, hx905_2, hx905_3, hx905_4, hx905_5, hx905_6, hx905_7, hl905_7, hi905_7⟩ := at_T31 HR1_7.out 0 p905 q905
  cases e905
  have qi905 : (0 < l1_7.length) = True := eq_true (by omega)
  (try rw [show ((0 : Int)).toNat = 0 from rfl] at hx905_0)
  (try rw [show 0 * 8 = 0 from rfl] at hx905_0)
  (try rw [Addr.add_zero'] at hx905_0)
  (try rw [show ((0 : Int)).toNat = 0 from rfl] at hx905_1)
  (try rw [show 0 * 8 = 0 from rfl] at hx905_1)
  (try rw [Addr.add_zero'] at hx905_1)
  (try rw [show ((0 : Int)).toNat = 0 from rfl] at hx905_2)
  (try rw [show 0 * 8 = 0 from rfl] at hx905_2)
  (try rw [Addr.add_zero'] at hx905_2)
  (try rw [show ((0 : Int)).toNat = 0 from rfl] at hx905_3)
  (try rw [show 0 * 8 = 0 from rfl] at hx905_3)
  (try rw [Addr.add_zero'] at hx905_3)
  (try rw [show ((0 : Int)).toNat = 0 from rfl] at hx905_4)
  (try rw [show 0 * 8 = 0 from rfl] at hx905_4)
  (try rw [Addr.add_zero'] at hx905_4)
  (try rw [show ((0 : Int)).toNat = 0 from rfl] at hx905_5)
  (try rw [show 0 * 8 = 0 from rfl] at hx905_5)
  (try rw [Addr.add_zero'] at hx905_5)
  (try rw [show ((0 : Int)).toNat = 0 from rfl] at hx905_6)
  (try rw [show 0 * 8 = 0 from rfl] at hx905_6)
  (try rw [Addr.add_zero'] at hx905_6)
  (try rw [show ((0 : Int)).toNat = 0 from rfl] at hx905_7)
  (try rw [show 0 * 8 = 0 from rfl] at hx905_7)
  (try rw [Addr.add_zero'] at hx905_7)
  replace hx905_0 := hbw HB.out hx905_0
  replace hx905_1 := hbw HB.out hx905_1
  replace hx905_2 := hbw HB.out hx905_2
  replace hx905_3 := hbw HB.out hx905_3
  replace hx905_4 := hbw HB.out hx905_4
  replace hx905_5 := hbw HB.out hx905_5
  replace hx905_6 := hbw HB.out hx905_6
  replace hx905_7 := hbw HB.out hx905_7
  have HR905_7 := am hi905_7
  have HC905_7 := am hl905_7
  clear hi905_7 hl905_7
  replace p905 := eq_true p905
  replace q905 := eq_true q905
  go_upto_if 58 with (first | ((with_reducible refine gate_callee (f := 41) rfl ?_); refine gl_ (some 50) Tryz.func41 (by kernel_rfl) #[.slice A0 l0.length c0, .agg #[.int .i64 ((rd_T31 l1_7 0).f0), .int .i64 ((rd_T31 l1_7 0).f1.f0), .int .i64 ((rd_T31 l1_7 0).f1.f1.f0), .int .i64 ((rd_T31 l1_7 0).f1.f1.f1), .string ((rd_T31 l1_7 0).f1.f2), .int .i64 ((rd_T31 l1_7 0).f1.f3), .string ((rd_T31 l1_7 0).f2), .slice A905_7 ((rd_T31 l1_7 0).f3).length c905_7]] rfl ?_; (with_reducible refine (ih k (by omega) _ _ l0 ((rd_T31 l1_7 0).f0) ((rd_T31 l1_7 0).f1.f0) ((rd_T31 l1_7 0).f1.f1.f0) ((rd_T31 l1_7 0).f1.f1.f1) ((rd_T31 l1_7 0).f1.f2) ((rd_T31 l1_7 0).f1.f3) ((rd_T31 l1_7 0).f2) _ _ ((rd_T31 l1_7 0).f3) t906 t907 t908 t909 t910 _ ?side1 ?side2 ?side3 ?side4 ?side5 A43.out).mono ?_); (case side1 => repeat (first | exact (Kd.C_below HR0.out HB.out) | (with_reducible refine Kd.C_alloc ?_ _) | (with_reducible refine Kd.C_drewN ?_ _) | (with_reducible refine Kd.C_drew ?_))); (case side2 => exact HC0.out); (case side3 => repeat (first | exact (Kd.C_below HR905_7.out HB.out) | (with_reducible refine Kd.C_alloc ?_ _) | (with_reducible refine Kd.C_drewN ?_ _) | (with_reducible refine Kd.C_drew ?_))); (case side4 => exact HC905_7.out); (case side5 => exact tabs_of HT.out (bz HB.out)); rintro e w48 ⟨rfl, hb⟩; refine ⟨_, rfl, ?_⟩; replace BK882 := kb BK882 hb; replace BK883 := kb BK883 hb; replace HB := sb HB hb; clear hb) | ((with_reducible refine gate_dst (N := 6) rfl ?_); refine bev (#[.int .i64 0, .int .i64 0, .int .i64 0, .string (⟨#[]⟩ : ByteArray), .int .i64 0]) 25 ?_; intro gb911 hg w49 hbox hb; have BK911 := am (hbox); have GW911 := gs hg HB; have GE911 := GW911; replace HB := sb HB hb; have NB882_911 := na hg BK882; have NB911_882 := nb hg BK882; replace BK882 := kb BK882 hb; have NB883_911 := na hg BK883; have NB911_883 := nb hg BK883; replace BK883 := kb BK883 hb; clear hb hbox hg; have hnb50 := NB911_882.out; have hnc50 := NB882_911.out; have hnb51 := NB911_883.out; have hnc51 := NB883_911.out; obtain ⟨Z52_0, Z52_1, Z52_2, Z52_3, Z52_4, F52_0, F52_1, F52_2, F52_3, F52_4⟩ := cz5 BK911.out; obtain ⟨Z53_0, Z53_1, Z53_2, Z53_3, Z53_4, Z53_5, Z53_6, Z53_7, F53_0, F53_1, F53_2, F53_3, F53_4, F53_5, F53_6, F53_7⟩ := cz8 BK882.out))
  (try simp only [Act.put, List.setIfInBounds_toArray, List.set_cons_zero, List.set_cons_succ])
  have H := HC45.out
  clear HC45
  clear Z47_0 Z47_1 Z47_2 Z47_3 Z47_4 Z47_5 Z47_6 Z47_7 F47_0 F47_1 F47_2 F47_3 F47_4 F47_5 F47_6 F47_7 hx905_0 hx905_1 hx905_2 hx905_3 hx905_4 hx905_5 hx905_6 hx905_7 Z52_0 Z52_1 Z52_2 Z52_3 Z52_4 F52_0 F52_1 F52_2 F52_3 F52_4 Z53_0 Z53_1 Z53_2 Z53_3 Z53_4 Z53_5 Z53_6 Z53_7 F53_0 F53_1 F53_2 F53_3 F53_4 F53_5 F53_6 F53_7
  by_cases c54 : a1_0 = 16
  ·replace H := ipe c54 H
   obtain ⟨H, c54b0, c54b1⟩ := H
   clear c54
   (first | rw [c54b0] | (simp only [i64_w, i32_w]; rw [c54b0]) | skip)
   exact absurd H (by simp)
  replace H := ine c54 H
  obtain ⟨H, c54b0, c54b1⟩ := H
  (first | rw [c54b0] | (simp only [i64_w, i32_w]; rw [c54b0]) | skip)
  by_cases c55 : 1 < (l1_7.length : Int)
  ·rw [if_pos c55] at H
   have c55b0 : decide (1 < (l1_7.length : Int)) = true := decide_eq_true c55
   have c55b1 : decide (1 < l1_7.length) = true := decide_eq_true (by omega)
   clear c55
   replace H := obe5 H
   obtain ⟨t913, t914, t915, t916, t917, A56, H⟩ := H
   have HC57 := am H
   clear H
   have hnb58 := NB882_883.out
   have hnc58 := NB883_882.out
   have hnb59 := NB882_911.out
   have hnc59 := NB911_882.out
   obtain ⟨Z60_0, Z60_1, Z60_2, Z60_3, Z60_4, Z60_5, Z60_6, Z60_7, F60_0, F60_1, F60_2, F60_3, F60_4, F60_5, F60_6, F60_7⟩ := cz8 BK882.out
   have p912 : 0 ≤ (1 : Int) := (by omega)
   have q912 : 1 < (l1_7.length : Int) := of_decide_eq_true tz
   obtain ⟨ad912, A912_7, c912_7, e912, hx912_0, hx912_1, hx912_2, hx912_3, hx912_4, hx912_5, hx912_6, hx912_7, hl912_7, hi912_7⟩ := at_T31 HR1_7.out 1 p912 q912
   obtain rfl : ad905 = ad912 := (by injection e912)
   (try simp only [show (1 : Int).toNat = 1 from rfl, Nat.reduceMul, Nat.reduceEqDiff, Go.Addr.add, ↓reduceIte] at hx912_0)
   (try simp only [show (1 : Int).toNat = 1 from rfl, Nat.reduceMul, Nat.reduceEqDiff, Go.Addr.add, ↓reduceIte] at hx912_1)
   (try simp only [show (1 : Int).toNat = 1 from rfl, Nat.reduceMul, Nat.reduceEqDiff, Go.Addr.add, ↓reduceIte] at hx912_2)
   (try simp only [show (1 : Int).toNat = 1 from rfl, Nat.reduceMul, Nat.reduceEqDiff, Go.Addr.add, ↓reduceIte] at hx912_3)
   (try simp only [show (1 : Int).toNat = 1 from rfl, Nat.reduceMul, Nat.reduceEqDiff, Go.Addr.add, ↓reduceIte] at hx912_4)
   (try simp only [show (1 : Int).toNat = 1 from rfl, Nat.reduceMul, Nat.reduceEqDiff, Go.Addr.add, ↓reduceIte] at hx912_5)
   (try simp only [show (1 : Int).toNat = 1 from rfl, Nat.reduceMul, Nat.reduceEqDiff, Go.Addr.add, ↓reduceIte] at hx912_6)
   (try simp only [show (1 : Int).toNat = 1 from rfl, Nat.reduceMul, Nat.reduceEqDiff, Go.Addr.add, ↓reduceIte] at hx912_7)
   have qi912 : (1 < l1_7.length) = True := eq_true (by omega)
   (try rw [show ((1 : Int)).toNat = 1 from rfl] at hx912_0)
   (try rw [show 1 * 8 = 8 from rfl] at hx912_0)
   (try rw [show ((1 : Int)).toNat = 1 from rfl] at hx912_1)
   (try rw [show 1 * 8 = 8 from rfl] at hx912_1)
   (try rw [show ((1 : Int)).toNat = 1 from rfl] at hx912_2)
   (try rw [show 1 * 8 = 8 from rfl] at hx912_2)
   (try rw [show ((1 : Int)).toNat = 1 from rfl] at hx912_3)
   (try rw [show 1 * 8 = 8 from rfl] at hx912_3)
   (try rw [show ((1 : Int)).toNat = 1 from rfl] at hx912_4)
   (try rw [show 1 * 8 = 8 from rfl] at hx912_4)
   (try rw [show ((1 : Int)).toNat = 1 from rfl] at hx912_5)
   (try rw [show 1 * 8 = 8 from rfl] at hx912_5)
   (try rw [show ((1 : Int)).toNat = 1 from rfl] at hx912_6)
   (try rw [show 1 * 8 = 8 from rfl] at hx912_6)
   (try rw [show ((1 : Int)).toNat = 1 from rfl] at hx912_7)
   (try rw [show 1 * 8 = 8 from rfl] at hx912_7)
   have hn912_0 : ad905.block ≠ gb911 := Nat.ne_of_lt (Nat.lt_of_lt_of_le (by have := World.block_lt_of_cell? _ _ hx912_0; first | rwa [add_block] at this | exact this) GW911.out)
   have hn912_1 : ad905.block ≠ gb911 := Nat.ne_of_lt (Nat.lt_of_lt_of_le (by have := World.block_lt_of_cell? _ _ hx912_0; first | rwa [add_block] at this | exact this) GW911.out)
   have hn912_2 : ad905.block ≠ gb911 := Nat.ne_of_lt (Nat.lt_of_lt_of_le (by have := World.block_lt_of_cell? _ _ hx912_0; first | rwa [add_block] at this | exact this) GW911.out)
   have hn912_3 : ad905.block ≠ gb911 := Nat.ne_of_lt (Nat.lt_of_lt_of_le (by have := World.block_lt_of_cell? _ _ hx912_0; first | rwa [add_block] at this | exact this) GW911.out)
   have hn912_4 : ad905.block ≠ gb911 := Nat.ne_of_lt (Nat.lt_of_lt_of_le (by have := World.block_lt_of_cell? _ _ hx912_0; first | rwa [add_block] at this | exact this) GW911.out)
   replace hx912_0 := hbw HB.out hx912_0
   replace hx912_1 := hbw HB.out hx912_1
   replace hx912_2 := hbw HB.out hx912_2
   replace hx912_3 := hbw HB.out hx912_3
   replace hx912_4 := hbw HB.out hx912_4
   replace hx912_5 := hbw HB.out hx912_5
   replace hx912_6 := hbw HB.out hx912_6
   replace hx912_7 := hbw HB.out hx912_7
   have HR912_7 := am hi912_7
   have HC912_7 := am hl912_7
   clear hi912_7 hl912_7
   replace hx912_0 := (cell_far (p := ⟨gb911, 0, none⟩) (by first | (rw [add_block]; exact hn912_0) | (show (Addr.add _ _).block ≠ _; rw [add_block]; exact hn912_0) | exact hn912_0) (.int .i64 t906)).trans hx912_0
   replace hx912_1 := (cell_far (p := ⟨gb911, 0, none⟩) (by first | (rw [add_block]; exact hn912_0) | (show (Addr.add _ _).block ≠ _; rw [add_block]; exact hn912_0) | exact hn912_0) (.int .i64 t906)).trans hx912_1
   replace hx912_2 := (cell_far (p := ⟨gb911, 0, none⟩) (by first | (rw [add_block]; exact hn912_0) | (show (Addr.add _ _).block ≠ _; rw [add_block]; exact hn912_0) | exact hn912_0) (.int .i64 t906)).trans hx912_2
   replace hx912_3 := (cell_far (p := ⟨gb911, 0, none⟩) (by first | (rw [add_block]; exact hn912_0) | (show (Addr.add _ _).block ≠ _; rw [add_block]; exact hn912_0) | exact hn912_0) (.int .i64 t906)).trans hx912_3
   replace hx912_4 := (cell_far (p := ⟨gb911, 0, none⟩) (by first | (rw [add_block]; exact hn912_0) | (show (Addr.add _ _).block ≠ _; rw [add_block]; exact hn912_0) | exact hn912_0) (.int .i64 t906)).trans hx912_4
   replace hx912_5 := (cell_far (p := ⟨gb911, 0, none⟩) (by first | (rw [add_block]; exact hn912_0) | (show (Addr.add _ _).block ≠ _; rw [add_block]; exact hn912_0) | exact hn912_0) (.int .i64 t906)).trans hx912_5
   replace hx912_6 := (cell_far (p := ⟨gb911, 0, none⟩) (by first | (rw [add_block]; exact hn912_0) | (show (Addr.add _ _).block ≠ _; rw [add_block]; exact hn912_0) | exact hn912_0) (.int .i64 t906)).trans hx912_6
   replace hx912_7 := (cell_far (p := ⟨gb911, 0, none⟩) (by first | (rw [add_block]; exact hn912_0) | (show (Addr.add _ _).block ≠ _; rw [add_block]; exact hn912_0) | exact hn912_0) (.int .i64 t906)).trans hx912_7
   replace hx912_0 := (cell_far (p := ⟨gb911, 1, none⟩) (by first | (rw [add_block]; exact hn912_1) | (show (Addr.add _ _).block ≠ _; rw [add_block]; exact hn912_1) | exact hn912_1) (.int .i64 t907)).trans hx912_0
   replace hx912_1 := (cell_far (p := ⟨gb911, 1, none⟩) (by first | (rw [add_block]; exact hn912_1) | (show (Addr.add _ _).block ≠ _; rw [add_block]; exact hn912_1) | exact hn912_1) (.int .i64 t907)).trans hx912_1
   replace hx912_2 := (cell_far (p := ⟨gb911, 1, none⟩) (by first | (rw [add_block]; exact hn912_1) | (show (Addr.add _ _).block ≠ _; rw [add_block]; exact hn912_1) | exact hn912_1) (.int .i64 t907)).trans hx912_2
   replace hx912_3 := (cell_far (p := ⟨gb911, 1, none⟩) (by first | (rw [add_block]; exact hn912_1) | (show (Addr.add _ _).block ≠ _; rw [add_block]; exact hn912_1) | exact hn912_1) (.int .i64 t907)).trans hx912_3
   replace hx912_4 := (cell_far (p := ⟨gb911, 1, none⟩) (by first | (rw [add_block]; exact hn912_1) | (show (Addr.add _ _).block ≠ _; rw [add_block]; exact hn912_1) | exact hn912_1) (.int .i64 t907)).trans hx912_4
   replace hx912_5 := (cell_far (p := ⟨gb911, 1, none⟩) (by first | (rw [add_block]; exact hn912_1) | (show (Addr.add _ _).block ≠ _; rw [add_block]; exact hn912_1) | exact hn912_1) (.int .i64 t907)).trans hx912_5
   replace hx912_6 := (cell_far (p := ⟨gb911, 1, none⟩) (by first | (rw [add_block]; exact hn912_1) | (show (Addr.add _ _).block ≠ _; rw [add_block]; exact hn912_1) | exact hn912_1) (.int .i64 t907)).trans hx912_6
   replace hx912_7 := (cell_far (p := ⟨gb911, 1, none⟩) (by first | (rw [add_block]; exact hn912_1) | (show (Addr.add _ _).block ≠ _; rw [add_block]; exact hn912_1) | exact hn912_1) (.int .i64 t907)).trans hx912_7
   replace hx912_0 := (cell_far (p := ⟨gb911, 2, none⟩) (by first | (rw [add_block]; exact hn912_2) | (show (Addr.add _ _).block ≠ _; rw [add_block]; exact hn912_2) | exact hn912_2) (.int .i64 t908)).trans hx912_0
   replace hx912_1 := (cell_far (p := ⟨gb911, 2, none⟩) (by first | (rw [add_block]; exact hn912_2) | (show (Addr.add _ _).block ≠ _; rw [add_block]; exact hn912_2) | exact hn912_2) (.int .i64 t908)).trans hx912_1
   replace hx912_2 := (cell_far (p := ⟨gb911, 2, none⟩) (by first | (rw [add_block]; exact hn912_2) | (show (Addr.add _ _).block ≠ _; rw [add_block]; exact hn912_2) | exact hn912_2) (.int .i64 t908)).trans hx912_2
   replace hx912_3 := (cell_far (p := ⟨gb911, 2, none⟩) (by first | (rw [add_block]; exact hn912_2) | (show (Addr.add _ _).block ≠ _; rw [add_block]; exact hn912_2) | exact hn912_2) (.int .i64 t908)).trans hx912_3
   replace hx912_4 := (cell_far (p := ⟨gb911, 2, none⟩) (by first | (rw [add_block]; exact hn912_2) | (show (Addr.add _ _).block ≠ _; rw [add_block]; exact hn912_2) | exact hn912_2) (.int .i64 t908)).trans hx912_4
   replace hx912_5 := (cell_far (p := ⟨gb911, 2, none⟩) (by first | (rw [add_block]; exact hn912_2) | (show (Addr.add _ _).block ≠ _; rw [add_block]; exact hn912_2) | exact hn912_2) (.int .i64 t908)).trans hx912_5
   replace hx912_6 := (cell_far (p := ⟨gb911, 2, none⟩) (by first | (rw [add_block]; exact hn912_2) | (show (Addr.add _ _).block ≠ _; rw [add_block]; exact hn912_2) | exact hn912_2) (.int .i64 t908)).trans hx912_6
   replace hx912_7 := (cell_far (p := ⟨gb911, 2, none⟩) (by first | (rw [add_block]; exact hn912_2) | (show (Addr.add _ _).block ≠ _; rw [add_block]; exact hn912_2) | exact hn912_2) (.int .i64 t908)).trans hx912_7
   replace hx912_0 := (cell_far (p := ⟨gb911, 3, none⟩) (by first | (rw [add_block]; exact hn912_3) | (show (Addr.add _ _).block ≠ _; rw [add_block]; exact hn912_3) | exact hn912_3) (.string t909)).trans hx912_0
   replace hx912_1 := (cell_far (p := ⟨gb911, 3, none⟩) (by first | (rw [add_block]; exact hn912_3) | (show (Addr.add _ _).block ≠ _; rw [add_block]; exact hn912_3) | exact hn912_3) (.string t909)).trans hx912_1
   replace hx912_2 := (cell_far (p := ⟨gb911, 3, none⟩) (by first | (rw [add_block]; exact hn912_3) | (show (Addr.add _ _).block ≠ _; rw [add_block]; exact hn912_3) | exact hn912_3) (.string t909)).trans hx912_2
   replace hx912_3 := (cell_far (p := ⟨gb911, 3, none⟩) (by first | (rw [add_block]; exact hn912_3) | (show (Addr.add _ _).block ≠ _; rw [add_block]; exact hn912_3) | exact hn912_3) (.string t909)).trans hx912_3
   replace hx912_4 := (cell_far (p := ⟨gb911, 3, none⟩) (by first | (rw [add_block]; exact hn912_3) | (show (Addr.add _ _).block ≠ _; rw [add_block]; exact hn912_3) | exact hn912_3) (.string t909)).trans hx912_4
   replace hx912_5 := (cell_far (p := ⟨gb911, 3, none⟩) (by first | (rw [add_block]; exact hn912_3) | (show (Addr.add _ _).block ≠ _; rw [add_block]; exact hn912_3) | exact hn912_3) (.string t909)).trans hx912_5
   replace hx912_6 := (cell_far (p := ⟨gb911, 3, none⟩) (by first | (rw [add_block]; exact hn912_3) | (show (Addr.add _ _).block ≠ _; rw [add_block]; exact hn912_3) | exact hn912_3) (.string t909)).trans hx912_6
   replace hx912_7 := (cell_far (p := ⟨gb911, 3, none⟩) (by first | (rw [add_block]; exact hn912_3) | (show (Addr.add _ _).block ≠ _; rw [add_block]; exact hn912_3) | exact hn912_3) (.string t909)).trans hx912_7
   replace hx912_0 := (cell_far (p := ⟨gb911, 4, none⟩) (by first | (rw [add_block]; exact hn912_4) | (show (Addr.add _ _).block ≠ _; rw [add_block]; exact hn912_4) | exact hn912_4) (.int .i64 t910)).trans hx912_0
   replace hx912_1 := (cell_far (p := ⟨gb911, 4, none⟩) (by first | (rw [add_block]; exact hn912_4) | (show (Addr.add _ _).block ≠ _; rw [add_block]; exact hn912_4) | exact hn912_4) (.int .i64 t910)).trans hx912_1
   replace hx912_2 := (cell_far (p := ⟨gb911, 4, none⟩) (by first | (rw [add_block]; exact hn912_4) | (show (Addr.add _ _).block ≠ _; rw [add_block]; exact hn912_4) | exact hn912_4) (.int .i64 t910)).trans hx912_2
   replace hx912_3 := (cell_far (p := ⟨gb911, 4, none⟩) (by first | (rw [add_block]; exact hn912_4) | (show (Addr.add _ _).block ≠ _; rw [add_block]; exact hn912_4) | exact hn912_4) (.int .i64 t910)).trans hx912_3
   replace hx912_4 := (cell_far (p := ⟨gb911, 4, none⟩) (by first | (rw [add_block]; exact hn912_4) | (show (Addr.add _ _).block ≠ _; rw [add_block]; exact hn912_4) | exact hn912_4) (.int .i64 t910)).trans hx912_4
   replace hx912_5 := (cell_far (p := ⟨gb911, 4, none⟩) (by first | (rw [add_block]; exact hn912_4) | (show (Addr.add _ _).block ≠ _; rw [add_block]; exact hn912_4) | exact hn912_4) (.int .i64 t910)).trans hx912_5
   replace hx912_6 := (cell_far (p := ⟨gb911, 4, none⟩) (by first | (rw [add_block]; exact hn912_4) | (show (Addr.add _ _).block ≠ _; rw [add_block]; exact hn912_4) | exact hn912_4) (.int .i64 t910)).trans hx912_6
   replace hx912_7 := (cell_far (p := ⟨gb911, 4, none⟩) (by first | (rw [add_block]; exact hn912_4) | (show (Addr.add _ _).block ≠ _; rw [add_block]; exact hn912_4) | exact hn912_4) (.int .i64 t910)).trans hx912_7
   clear hn912_0 hn912_1 hn912_2 hn912_3 hn912_4
   replace p912 := eq_true p912
   replace q912 := eq_true q912
   go_upto_if 70 with (first | ((with_reducible refine gate_callee (f := 41) rfl ?_); refine gl_ (some 67) Tryz.func41 (by kernel_rfl) #[.slice A0 l0.length c0, .agg #[.int .i64 ((rd_T31 l1_7 1).f0), .int .i64 ((rd_T31 l1_7 1).f1.f0), .int .i64 ((rd_T31 l1_7 1).f1.f1.f0), .int .i64 ((rd_T31 l1_7 1).f1.f1.f1), .string ((rd_T31 l1_7 1).f1.f2), .int .i64 ((rd_T31 l1_7 1).f1.f3), .string ((rd_T31 l1_7 1).f2), .slice A912_7 ((rd_T31 l1_7 1).f3).length c912_7]] rfl ?_; (with_reducible refine (ih k (by omega) _ _ l0 ((rd_T31 l1_7 1).f0) ((rd_T31 l1_7 1).f1.f0) ((rd_T31 l1_7 1).f1.f1.f0) ((rd_T31 l1_7 1).f1.f1.f1) ((rd_T31 l1_7 1).f1.f2) ((rd_T31 l1_7 1).f1.f3) ((rd_T31 l1_7 1).f2) _ _ ((rd_T31 l1_7 1).f3) t913 t914 t915 t916 t917 _ ?side1 ?side2 ?side3 ?side4 ?side5 A56.out).mono ?_); (case side1 => exact Kd.C_below HR0.out (bz HB.out)); (case side2 => exact HC0.out); (case side3 => exact Kd.C_below HR912_7.out (bz HB.out)); (case side4 => exact HC912_7.out); (case side5 => exact tabs_of HT.out (bz HB.out)); rintro e w61 ⟨rfl, hb⟩; refine ⟨_, rfl, ?_⟩; replace BK882 := am (blk_below (g := gb882) (o := .cells #[.int .i64 a1_0, .int .i64 a1_1, .int .i64 a1_2, .int .i64 a1_3, .string a1_4, .int .i64 a1_5, .string a1_6, .slice (some ad905) l1_7.length c1_7] 31 (0, 0)) (bp BK882.out) hb); replace BK883 := am (blk_below (g := gb883) (o := .cells #[.int .i64 0, .int .i64 0, .int .i64 0, .string (⟨#[]⟩ : ByteArray), .int .i64 0] 25 (0, 0)) (bp BK883.out) hb); replace BK911 := am (blk_below (g := gb911) (o := .cells #[.int .i64 t906, .int .i64 t907, .int .i64 t908, .string t909, .int .i64 t910] 25 (0, 0)) (bp BK911.out) hb); replace HB := sb HB hb; clear hb) | ((with_reducible refine gate_dst (N := 7) rfl ?_); refine bev (#[.int .i64 0, .int .i64 0, .int .i64 0, .string (⟨#[]⟩ : ByteArray), .int .i64 0]) 25 ?_; intro gb918 hg w62 hbox hb; have BK918 := am (hbox); have GW918 := gs hg HB; have GE918 := GW918; replace HB := sb HB hb; have NB882_918 := na hg BK882; have NB918_882 := nb hg BK882; replace BK882 := kb BK882 hb; have NB883_918 := na hg BK883; have NB918_883 := nb hg BK883; replace BK883 := kb BK883 hb; have NB911_918 := na hg BK911; have NB918_911 := nb hg BK911; replace BK911 := kb BK911 hb; clear hb hbox hg; have hnb63 := NB918_882.out; have hnc63 := NB882_918.out; have hnb64 := NB918_883.out; have hnc64 := NB883_918.out; have hnb65 := NB918_911.out; have hnc65 := NB911_918.out; obtain ⟨Z66_0, Z66_1, Z66_2, Z66_3, Z66_4, F66_0, F66_1, F66_2, F66_3, F66_4⟩ := cz5 BK918.out; obtain ⟨Z67_0, Z67_1, Z67_2, Z67_3, Z67_4, Z67_5, Z67_6, Z67_7, F67_0, F67_1, F67_2, F67_3, F67_4, F67_5, F67_6, F67_7⟩ := cz8 BK882.out))
   (try simp only [Act.put, List.setIfInBounds_toArray, List.set_cons_zero, List.set_cons_succ])
   have H := HC57.out
   clear HC57
   clear Z60_0 Z60_1 Z60_2 Z60_3 Z60_4 Z60_5 Z60_6 Z60_7 F60_0 F60_1 F60_2 F60_3 F60_4 F60_5 F60_6 F60_7 hx912_0 hx912_1 hx912_2 hx912_3 hx912_4 hx912_5 hx912_6 hx912_7 Z66_0 Z66_1 Z66_2 Z66_3 Z66_4 F66_0 F66_1 F66_2 F66_3 F66_4 Z67_0 Z67_1 Z67_2 Z67_3 Z67_4 Z67_5 Z67_6 Z67_7 F67_0 F67_1 F67_2 F67_3 F67_4 F67_5 F67_6 F67_7
   by_cases c68 : a1_0 = 8
   ·replace H := ipe c68 H
    obtain ⟨H, c68b0, c68b1⟩ := H
    clear c68
    (first | rw [c68b0] | (simp only [i64_w, i32_w]; rw [c68b0]) | skip)
    exact absurd H (by simp)
   replace H := ine c68 H
   obtain ⟨H, c68b0, c68b1⟩ := H
   (first | rw [c68b0] | (simp only [i64_w, i32_w]; rw [c68b0]) | skip)
   by_cases c69 : a1_0 = 9
   ·replace H := ipe c69 H
    obtain ⟨H, c69b0, c69b1⟩ := H
    clear c69
    exact absurd H (by simp)
   replace H := ine c69 H
   obtain ⟨H, c69b0, c69b1⟩ := H
   by_cases c70 : a1_0 = 10
   ·rw [if_pos c70] at H
    exact absurd H (by simp)
   replace H := ine c70 H
   obtain ⟨H, c70b0, c70b1⟩ := H
   by_cases c71 : a1_0 = 12
   ·replace H := ipe c71 H
    obtain ⟨H, c71b0, c71b1⟩ := H
    clear c71
    replace H := obe5 H
    obtain ⟨t919, t920, t921, t922, t923, A72, H⟩ := H
    simp only [Option.some.injEq, Prod.mk.injEq] at H
    obtain ⟨rfl, rfl, rfl, rfl, rfl⟩ := H
    have hnb73 := NB918_882.out
    have hnc73 := NB882_918.out
    have hnb74 := NB918_883.out
    have hnc74 := NB883_918.out
    have hnb75 := NB918_911.out
    have hnc75 := NB911_918.out
    obtain ⟨Z76_0, Z76_1, Z76_2, Z76_3, Z76_4, F76_0, F76_1, F76_2, F76_3, F76_4⟩ := cz5 BK918.out
    have hnb77 := NB911_882.out
    have hnc77 := NB882_911.out
    have hnb78 := NB911_883.out
    have hnc78 := NB883_911.out
    obtain ⟨Z79_0, Z79_1, Z79_2, Z79_3, Z79_4, F79_0, F79_1, F79_2, F79_3, F79_4⟩ := cz5 BK911.out
    go_wp2_with (first | ((with_reducible refine gate_callee (f := 28) rfl ?_); refine gl_ (some 90) Tryz.func28 (by kernel_rfl) #[.agg #[.int .i64 t913, .int .i64 t914, .int .i64 t915, .string t916, .int .i64 t917], .agg #[.int .i64 t906, .int .i64 t907, .int .i64 t908, .string t909, .int .i64 t910]] rfl ?_; (with_reducible refine (calc_Less.calls k t913 t914 t915 t916 t917 t906 t907 t908 t909 t910 t919 t920 t921 t922 t923 _ ?side1 A72.out).mono ?_); (case side1 => exact tabs_of HT.out (bz HB.out)); rintro e w80 ⟨rfl, hb⟩; refine ⟨_, rfl, ?_⟩; replace BK882 := am (blk_below (g := gb882) (o := .cells #[.int .i64 a1_0, .int .i64 a1_1, .int .i64 a1_2, .int .i64 a1_3, .string a1_4, .int .i64 a1_5, .string a1_6, .slice (some ad905) l1_7.length c1_7] 31 (0, 0)) (bp BK882.out) hb); replace BK883 := am (blk_below (g := gb883) (o := .cells #[.int .i64 0, .int .i64 0, .int .i64 0, .string (⟨#[]⟩ : ByteArray), .int .i64 0] 25 (0, 0)) (bp BK883.out) hb); replace BK911 := am (blk_below (g := gb911) (o := .cells #[.int .i64 t906, .int .i64 t907, .int .i64 t908, .string t909, .int .i64 t910] 25 (0, 0)) (bp BK911.out) hb); replace BK918 := am (blk_below (g := gb918) (o := .cells #[.int .i64 t913, .int .i64 t914, .int .i64 t915, .string t916, .int .i64 t917] 25 (0, 0)) (bp BK918.out) hb); replace HB := sb HB hb; clear hb; have hnb81 := NB883_882.out; have hnc81 := NB882_883.out; obtain ⟨Z82_0, Z82_1, Z82_2, Z82_3, Z82_4, F82_0, F82_1, F82_2, F82_3, F82_4⟩ := cz5 BK883.out))
    refine bodyPost_ret (results_cell_row rfl _ _ gb883 25 #[.int .i64 t919, .int .i64 t920, .int .i64 t921, .string t922, .int .i64 t923] (0, 0) _ rfl (bp BK883.out) Tryz.underlying25 rfl (by kernel_rfl)) rfl ?_
    exact ⟨az, bz HB.out⟩
   replace H := ine c71 H
   obtain ⟨H, c71b0, c71b1⟩ := H
   by_cases c83 : a1_0 = 11
   ·rw [if_pos c83] at H
    exact absurd H (by simp)
   replace H := ine c83 H
   obtain ⟨H, c83b0, c83b1⟩ := H
   by_cases c84 : a1_0 = 13
   ·rw [if_pos c84] at H
    exact absurd H (by simp)
   replace H := ine c84 H
   obtain ⟨H, c84b0, c84b1⟩ := H
   by_cases c85 : a1_0 = 14
   ·replace H := ipe c85 H
    obtain ⟨H, c85b0, c85b1⟩ := H
    clear c85
    obtain ⟨y924, hy924⟩ : ∃ y_ : List (S25), y_ = (([(⟨t906, (⟨t907, t908⟩ : S23), t909, t910⟩ : S25), (⟨t913, (⟨t914, t915⟩ : S23), t916, t917⟩ : S25)] : List (S25))) := ⟨_, rfl⟩
    replace H : (none) = some (r1, r2, r3, r4, r5) := by first | (rw [hy924]; with_reducible exact H) | (have H2_ := (Option.bind_some _ _).symm.trans H; rw [hy924]; with_reducible exact H2_) | (have H2_ := (Option.bind_some _ _).symm.trans H; with_reducible exact H2_) | with_reducible exact H | (rw [hy924]; exact H) | exact H
    have Ny924 := am hy924
    clear hy924
    exact absurd H (by simp)
   replace H := ine c85 H
   obtain ⟨H, c85b0, c85b1⟩ := H
   by_cases c86 : a1_0 = 15
   ·replace H := ipe c86 H
    obtain ⟨H, c86b0, c86b1⟩ := H
    clear c86
    obtain ⟨y927, hy927⟩ : ∃ y_ : List (S25), y_ = (([(⟨t906, (⟨t907, t908⟩ : S23), t909, t910⟩ : S25), (⟨t913, (⟨t914, t915⟩ : S23), t916, t917⟩ : S25)] : List (S25))) := ⟨_, rfl⟩
    replace H : (none) = some (r1, r2, r3, r4, r5) := by first | (rw [hy927]; with_reducible exact H) | (have H2_ := (Option.bind_some _ _).symm.trans H; rw [hy927]; with_reducible exact H2_) | (have H2_ := (Option.bind_some _ _).symm.trans H; with_reducible exact H2_) | with_reducible exact H | (rw [hy927]; exact H) | exact H
    have Ny927 := am hy927
    clear hy927
    exact absurd H (by simp)
   replace H := ine c86 H
   obtain ⟨H, c86b0, c86b1⟩ := H
   replace H := obe5 H
   obtain ⟨t930, t931, t932, t933, t934, A87, H⟩ := H
   simp only [Option.some.injEq, Prod.mk.injEq] at H
   obtain ⟨rfl, rfl, rfl, rfl, rfl⟩ := H
   have hnb88 := NB882_883.out
   have hnc88 := NB883_882.out
   have hnb89 := NB882_911.out
   have hnc89 := NB911_882.out
   have hnb90 := NB882_918.out
   have hnc90 := NB918_882.out
   obtain ⟨Z91_0, Z91_1, Z91_2, Z91_3, Z91_4, Z91_5, Z91_6, Z91_7, F91_0, F91_1, F91_2, F91_3, F91_4, F91_5, F91_6, F91_7⟩ := cz8 BK882.out
   have hnb92 := NB911_883.out
   have hnc92 := NB883_911.out
   have hnb93 := NB911_918.out
   have hnc93 := NB918_911.out
   obtain ⟨Z94_0, Z94_1, Z94_2, Z94_3, Z94_4, F94_0, F94_1, F94_2, F94_3, F94_4⟩ := cz5 BK911.out
   have hnb95 := NB918_883.out
   have hnc95 := NB883_918.out
   obtain ⟨Z96_0, Z96_1, Z96_2, Z96_3, Z96_4, F96_0, F96_1, F96_2, F96_3, F96_4⟩ := cz5 BK918.out
   go_wp2_with (first | ((with_reducible refine gate_callee (f := 79) rfl ?_); refine gl_ (some 119) Tryz.func79 (by kernel_rfl) #[.int .i64 a1_0, .agg #[.int .i64 t906, .int .i64 t907, .int .i64 t908, .string t909, .int .i64 t910], .agg #[.int .i64 t913, .int .i64 t914, .int .i64 t915, .string t916, .int .i64 t917]] rfl ?_; (with_reducible refine (calc_reckon.calls k a1_0 t906 t907 t908 t909 t910 t913 t914 t915 t916 t917 t930 t931 t932 t933 t934 _ ?side1 A87.out).mono ?_); (case side1 => exact tabs_of HT.out (bz HB.out)); rintro e w97 ⟨rfl, hb⟩; refine ⟨_, rfl, ?_⟩; replace BK882 := am (blk_below (g := gb882) (o := .cells #[.int .i64 a1_0, .int .i64 a1_1, .int .i64 a1_2, .int .i64 a1_3, .string a1_4, .int .i64 a1_5, .string a1_6, .slice (some ad905) l1_7.length c1_7] 31 (0, 0)) (bp BK882.out) hb); replace BK883 := am (blk_below (g := gb883) (o := .cells #[.int .i64 0, .int .i64 0, .int .i64 0, .string (⟨#[]⟩ : ByteArray), .int .i64 0] 25 (0, 0)) (bp BK883.out) hb); replace BK911 := am (blk_below (g := gb911) (o := .cells #[.int .i64 t906, .int .i64 t907, .int .i64 t908, .string t909, .int .i64 t910] 25 (0, 0)) (bp BK911.out) hb); replace BK918 := am (blk_below (g := gb918) (o := .cells #[.int .i64 t913, .int .i64 t914, .int .i64 t915, .string t916, .int .i64 t917] 25 (0, 0)) (bp BK918.out) hb); replace HB := sb HB hb; clear hb; obtain ⟨Z98_0, Z98_1, Z98_2, Z98_3, Z98_4, F98_0, F98_1, F98_2, F98_3, F98_4⟩ := cz5 BK883.out))
   refine bodyPost_ret (results_cell_row rfl _ _ gb883 25 #[.int .i64 t930, .int .i64 t931, .int .i64 t932, .string t933, .int .i64 t934] (0, 0) _ rfl (bp BK883.out) Tryz.underlying25 rfl (by kernel_rfl)) rfl ?_
   exact ⟨az, bz HB.out⟩
  rw [if_neg c55] at H
  exact absurd H (by simp)
 rw [if_neg c42] at H
 exact absurd H (by simp)
end Go.Proofs.YtgkemhgihbfmmaaGreatDoor.PA
end
section
namespace Go.Proofs.YtgkemhgihbfmmaaGreatDoor.PA
open Go.RowKit Go.Proofs.YtgkemhgihbfmmaaGreatDoorW.PrintWords Go.Proofs.YtgkemhgihbfmmaaGreatDoorW.PrintLast Go.Proofs.YtgkemhgihbfmmaaGreatDoorW.PrintMore
attribute [local go_sem] max2_int min2_int max_two min_two max_three min_three max_four min_four isSome_set str_gtr
set_option linter.unusedVariables false
set_option linter.unusedSimpArgs false
end Go.Proofs.YtgkemhgihbfmmaaGreatDoor.PA
end
section
namespace Go.Proofs.YtgkemhgihbfmmaaGreatDoor.PA
open Go.RowKit Go.Sort Go.Lib Go.Proofs.YtgkemhgihbfmmaaGreatDoorW.PrintWords Go.Proofs.YtgkemhgihbfmmaaGreatDoorW.PrintLast Go.Proofs.YtgkemhgihbfmmaaGreatDoorW.PrintMore
def sortNames (r : List ByteArray) : List (List UInt8) := Lib.compact ((r.map (·.data.toList)).mergeSort fun x y => decide (x ≤ y))
def expr_Names.f (k : Nat) (a0 a1 a2 a3 : Int) (a4 : ByteArray) (a5 : Int) (a6 : ByteArray) (l7 : List S31) : Option (List ByteArray) :=
  (expr_Sound.f k a0 a1 a2 a3 a4 a5 a6 l7).bind fun ok => if ok = true then (expr_names.f k a0 a1 a2 a3 a4 a5 a6 l7).bind fun r => if r.length < 4611686018427387904 then some ((sortNames r).map fun b => ⟨b.toArray⟩) else none else some []
theorem expr_Names.mono : ∀ a0 a1 a2 a3 a4 a5 a6 a7 k, LeO (expr_Names.f k a0 a1 a2 a3 a4 a5 a6 a7) (expr_Names.f (k + 1) a0 a1 a2 a3 a4 a5 a6 a7) := fun a0 a1 a2 a3 a4 a5 a6 a7 k =>
  LeO.bind (expr_Sound.mono _ _ _ _ _ _ _ _ k) fun _ => LeO.ite (LeO.bind (expr_names.mono _ _ _ _ _ _ _ _ k) fun _ => LeO.refl _) (LeO.refl _)
theorem below_grow {B : Nat} {w0 W : World} (h : Below B w0 W) (os : Array Obj) (hB : B ≤ W.heap.size) : Below B w0 (Sort.grow W os) :=
  ⟨h.os, h.tape, h.output, by show w0.heap.size ≤ (W.heap ++ os).size; rw [Array.size_append]; have := h.size; omega, fun k hk => (Sort.heap_grow_old W os (Nat.lt_of_lt_of_le hk hB)).trans (h.block k hk)⟩
theorem compact_le (zs : List (List UInt8)) : (Lib.compact zs).length ≤ zs.length := by
  unfold Lib.compact Lib.compactUpTo
  rw [List.length_map]
  exact Nat.le_trans (List.length_filter_le _ _) (by rw [List.length_range]; exact Nat.le_refl _)
theorem row_at (xs : List (List UInt8)) (k j : Nat) (hj : j < xs.length) : (xs ++ List.replicate k ([] : List UInt8)).toArray[j]! = xs[j] := by
  have h1 : j < (xs ++ List.replicate k ([] : List UInt8)).toArray.size := by simp; omega
  rw [getElem!_pos _ j h1, List.getElem_toArray, List.getElem_append_left hj]
set_option maxHeartbeats 4000000 in
set_option maxRecDepth 100000 in
theorem clip_calls (A : Option Addr) (n c : Nat) (w : World) (hc : n ≤ c) : Calls Tryz.prog 74 #[.slice A n c] w fun e w' => e = .returned (.slice A n n) ∧ w' = w := by
  have i1 : ((0 : Int) ≤ (n : Int)) = True := eq_true (by omega)
  have i2 : ((n : Int) ≤ (c : Int)) = True := eq_true (by omega)
  have i3 : (n ≤ c) = True := eq_true hc
  go_enter Tryz.func74, Tryz.ntmps74
  go_wp2
  go_ret
  exact ⟨rfl, rfl⟩
set_option maxHeartbeats 4000000 in
set_option maxRecDepth 100000 in
theorem expr_Names.calls (k : Nat) (a0_0 a0_1 a0_2 a0_3 : Int) (a0_4 : ByteArray) (a0_5 : Int) (a0_6 : ByteArray) (A0_7 : Option Addr) (c0_7 : Nat) (l0_7 : List S31) (r : List ByteArray) (w : World) (hr0_7 : Kd.C k31 w A0_7 l0_7.length l0_7) (hc0_7 : l0_7.length ≤ c0_7) (hT : Tabs w)
    (h : expr_Names.f k a0_0 a0_1 a0_2 a0_3 a0_4 a0_5 a0_6 l0_7 = some r) :
    Calls Tryz.prog 39 #[.agg #[.int .i64 a0_0, .int .i64 a0_1, .int .i64 a0_2, .int .i64 a0_3, .string a0_4, .int .i64 a0_5, .string a0_6, .slice A0_7 l0_7.length c0_7]] w fun e w' => ∃ A c, e = .returned (.slice A r.length c) ∧ Kd.C Kd.string w' A r.length r ∧ Below w.heap.size w w' := by
  obtain ⟨ok, hs, h⟩ := Option.bind_eq_some_iff.mp h
  have cS := fun (W : World) (hb : Below w.heap.size w W) => expr_Sound.calls k a0_0 a0_1 a0_2 a0_3 a0_4 a0_5 a0_6 A0_7 c0_7 l0_7 ok W (Kd.C_below hr0_7 hb) hc0_7 (tabs_of hT hb) hs
  have hu31 := Tryz.underlying31
  cases ok with
  | false =>
    simp only [Bool.false_eq_true, if_false, Option.some.injEq] at h
    subst h
    clear hr0_7 hc0_7 hT hs
    go_enter Tryz.func39, Tryz.ntmps39
    go_wp2_with (first
      | ((with_reducible refine gate_dst (N := 1) rfl ?_); refine bev (#[.int .i64 a0_0, .int .i64 a0_1, .int .i64 a0_2, .int .i64 a0_3, .string a0_4, .int .i64 a0_5, .string a0_6, .slice A0_7 l0_7.length c0_7]) 31 ?_; intro gb hgb w1 hbox hb1
         have HB1 := Aside0.mk hb1; obtain ⟨x0, x1, x2, x3, x4, x5, x6, x7, _⟩ := cz8 hbox; clear hgb hbox hb1)
      | (go_at_call 35; refine (cS _ HB1.out).mono ?_; rintro e w2 ⟨rfl, hb2⟩))
    go_ret
    exact ⟨_, _, rfl, Kd.C_of_reads (d := ByteArray.empty) ⟨rfl, by simp, fun h => absurd h (by simp)⟩, HB1.out.trans (hb2.mono HB1.out.size)⟩
  | true =>
    simp only [if_true] at h
    obtain ⟨t, hn, h⟩ := Option.bind_eq_some_iff.mp h
    split at h
    rotate_left
    · cases h
    rename_i hbig
    obtain rfl := Option.some.inj h
    have cN := fun (W : World) (hb : Below w.heap.size w W) => expr_names.calls k a0_0 a0_1 a0_2 a0_3 a0_4 a0_5 a0_6 A0_7 c0_7 l0_7 t W (Kd.C_below hr0_7 hb) hc0_7 hn
    clear hr0_7 hc0_7 hT hs hn h
    by_cases ht : t = []
    · subst ht
      have hr0 : ((sortNames []).map fun b => (⟨b.toArray⟩ : ByteArray)) = [] := by simp [sortNames, Lib.compact, Lib.compactUpTo]
      rw [hr0]
      go_enter Tryz.func39, Tryz.ntmps39
      go_wp2_with (first
        | ((with_reducible refine gate_dst (N := 1) rfl ?_); refine bev (#[.int .i64 a0_0, .int .i64 a0_1, .int .i64 a0_2, .int .i64 a0_3, .string a0_4, .int .i64 a0_5, .string a0_6, .slice A0_7 l0_7.length c0_7]) 31 ?_; intro gb hgb w1 hbox hb1
           have HB := Aside0.mk hb1; have HX := Aside0.mk hbox; obtain ⟨x0, x1, x2, x3, x4, x5, x6, x7, _⟩ := cz8 hbox; clear hgb hbox hb1)
        | (go_at_call 35; refine (cS _ HB.out).mono ?_; rintro e w2 ⟨rfl, hb2⟩; replace HX := Aside0.mk (blk_below HX.out hb2); replace HB := Aside0.mk (HB.out.trans (hb2.mono HB.out.size)); obtain ⟨x0, x1, x2, x3, x4, x5, x6, x7, _⟩ := cz8 HX.out; clear hb2)
        | (go_at_call 72; refine (cN _ HB.out).mono ?_; rintro e w3 ⟨v, rfl, hR, hb3⟩; obtain ⟨A, c, rfl⟩ := Kd.R_slice hR; replace HB := Aside0.mk (HB.out.trans (hb3.mono HB.out.size)); clear hR hb3)
        | (go_at_call 73; refine (Tryz.slices_Sort_string_none A c _).mono ?_; rintro e w4 ⟨rfl, rfl⟩)
        | (go_at_call 75; refine (Tryz.slices_Compact_string_empty A c _).mono ?_; rintro e w4 ⟨rfl, rfl⟩)
        | (go_at_call 74; refine (clip_calls A 0 c _ (Nat.zero_le _)).mono ?_; rintro e w4 ⟨rfl, rfl⟩))
      go_ret
      exact ⟨_, _, rfl, Kd.C_of_reads (d := ByteArray.empty) ⟨rfl, by simp, fun h => absurd h (by simp)⟩, HB.out⟩
    · obtain ⟨z, hz⟩ : ∃ z, t.map (·.data.toList) = z := ⟨_, rfl⟩
      obtain ⟨ss, hss⟩ : ∃ ss, (z.mergeSort fun x y => decide (x ≤ y)) = ss := ⟨_, rfl⟩
      have hlz : z.length = t.length := by rw [← hz, List.length_map]
      have hls : ss.length = t.length := by rw [← hss, List.length_mergeSort, hlz]
      have hsn : sortNames t = Lib.compact ss := by unfold sortNames; rw [hz, hss]
      have hcl : (Lib.compact ss).length ≤ t.length := by rw [← hls]; exact compact_le ss
      rw [hsn]
      have hpos : 0 < t.length := List.length_pos_iff.2 ht
      have cSort := fun (g cap : Nat) (W : World) (hH : Holds encStr W g 0 z.toArray) (hg : g < W.heap.size) => Tryz.slices_Sort_string g 0 cap z W hH hg (by omega)
      have cComp := fun (g cap : Nat) (W : World) (hH : Holds encStr W g 0 ss.toArray) (hcap : t.length ≤ cap) => Tryz.slices_Compact_string g 0 cap ss W hH (by omega) (by omega)
      simp only [hlz, hss] at cSort
      simp only [hls] at cComp
      go_enter Tryz.func39, Tryz.ntmps39
      go_wp2_with (first
        | ((with_reducible refine gate_dst (N := 1) rfl ?_); refine bev (#[.int .i64 a0_0, .int .i64 a0_1, .int .i64 a0_2, .int .i64 a0_3, .string a0_4, .int .i64 a0_5, .string a0_6, .slice A0_7 l0_7.length c0_7]) 31 ?_; intro gb hgb w1 hbox hb1
           have HB := Aside0.mk hb1; have HX := Aside0.mk hbox; obtain ⟨x0, x1, x2, x3, x4, x5, x6, x7, _⟩ := cz8 hbox; clear hgb hbox hb1)
        | (go_at_call 35; refine (cS _ HB.out).mono ?_; rintro e w2 ⟨rfl, hb2⟩; replace HX := Aside0.mk (blk_below HX.out hb2); replace HB := Aside0.mk (HB.out.trans (hb2.mono HB.out.size)); obtain ⟨x0, x1, x2, x3, x4, x5, x6, x7, _⟩ := cz8 HX.out; clear hb2)
        | (go_at_call 72; refine (cN _ HB.out).mono ?_; rintro e w3 ⟨v, rfl, hR, hb3⟩
           have hown := Kd.own_of_R hR
           rw [show encs Value.string t = z.map encStr from by rw [← hz, Lib.map_encStr]; rfl] at hown
           obtain ⟨A, c, hv⟩ := Kd.R_slice hR
           have hnn : v ≠ .slice none 0 0 := fun e => by rw [hv] at e; injection e with _ e2 _; omega
           obtain ⟨g, cap, rfl, hbg, hgl, hnc, _, _, hH⟩ := Lib.holds_of_ownsRow hown hnn
           have HG := Aside0.mk (Nat.le_trans HB.out.size hbg); replace HB := Aside0.mk (HB.out.trans (hb3.mono HB.out.size)); have HH := Aside0.mk hH; have HL := Aside0.mk hgl; have HN := Aside0.mk hnc; clear hR hb3 hown hv hnn hbg hgl hnc hH HX)
        | (go_at_call 73; refine (cSort g cap _ HH.out HL.out).mono ?_; rintro e w4 ⟨rfl, n, os, hw4⟩
           have HH4 := Aside0.mk (show Holds encStr w4 g 0 ss.toArray from by rw [hw4]; exact Sort.holds_grow encStr _ os g 0 _ (by rw [Sort.size_putRow]; exact HL.out) (Sort.holds_putRow encStr _ g 0 z.toArray ss.toArray (Sort.holds_ahead encStr _ n g 0 _ HH.out) (by simp [hlz, hls])))
           have HB4 := Aside0.mk (show Below w.heap.size w w4 from by rw [hw4]; exact below_grow (Lib.below_putRow HB.out HG.out) os (by rw [Sort.size_putRow]; exact HB.out.size))
           clear hw4)
        | (go_at_call 75; refine (cComp g cap _ HH4.out HN.out).mono ?_; rintro e w5 ⟨rfl, q, hw5⟩
           have HB5 := Aside0.mk (show Below w.heap.size w w5 from by rw [hw5]; exact Lib.below_putRow HB4.out HG.out)
           have HC5 := Aside0.mk (show ∀ j (hj : j < (Lib.compact ss).length), w5.cell? ⟨g, j, none⟩ = some (encStr (Lib.compact ss)[j]) from fun j hj => by
             have hc := Sort.cell?_putRow encStr (Sort.ahead w4 q) g 0 ss.toArray (Lib.compact ss ++ List.replicate (t.length - (Lib.compact ss).length) []).toArray (Sort.holds_ahead encStr _ q g 0 _ HH4.out) (by simp [hls]; omega) j (by simp; omega)
             rw [← hw5, Nat.zero_add] at hc
             rw [hc, row_at _ _ j hj])
           clear hw5)
        | (go_at_call 74; refine (clip_calls (some ⟨g, 0, none⟩) (Lib.compact ss).length cap _ (Nat.le_trans hcl HN.out)).mono ?_; rintro e w6 ⟨rfl, rfl⟩))
      go_ret
      refine ⟨some ⟨g, 0, none⟩, (Lib.compact ss).length, by rw [List.length_map]; rfl, Kd.C_of_reads (d := ByteArray.empty) ⟨rfl, by rw [List.length_map]; omega, fun _ => ⟨⟨g, 0, none⟩, rfl, fun j hj => ?_⟩⟩, HB5.out⟩
      rw [List.length_map] at hj
      have hc := HC5.out j hj
      rw [Addr.add_lit, Nat.zero_add, hc]
      simp [encStr, List.getD_eq_getElem?_getD, List.getElem?_map, List.getElem?_eq_getElem hj]
end Go.Proofs.YtgkemhgihbfmmaaGreatDoor.PA
end
section
namespace Go.Proofs.YtgkemhgihbfmmaaGreatDoor.PA
open Go.RowKit Go.Proofs.YtgkemhgihbfmmaaGreatDoorW.PrintWords Go.Proofs.YtgkemhgihbfmmaaGreatDoorW.PrintLast Go.Proofs.YtgkemhgihbfmmaaGreatDoorW.PrintMore
attribute [local go_sem] isSome_set
def allHave (l : List S27) : List ByteArray → Option Bool
  | [] => some true
  | n :: t => (fnd (fun y => some (y.f0.toList == n.toList)) l 0).bind fun r => if 0 ≤ r then allHave l t else some false
def unsound27 (k : Nat) (y : S27) : Option Bool := (value_Sound.f k y.f1.f0 y.f1.f1.f0 y.f1.f1.f1 y.f1.f2 y.f1.f3).bind fun ok => some (!ok)
def calc_Eval.f (k : Nat) (a0 a1 a2 a3 : Int) (a4 : ByteArray) (a5 : Int) (a6 : ByteArray) (l7 : List S31) (l1 : List S27) : Option (Int × Int × Int × ByteArray × Int × Int) :=
  (expr_Sound.f k a0 a1 a2 a3 a4 a5 a6 l7).bind fun ok => if ok = true then
    if l1.length < 4611686018427387904 then (fnd (unsound27 k) l1 0).bind fun r => if 0 ≤ r then some (0, 0, 0, ⟨#[]⟩, 0, 2) else
      (expr_Names.f k a0 a1 a2 a3 a4 a5 a6 l7).bind fun ns => (allHave l1 ns).bind fun all => if all = true then (calc_scope_eval.f k l1 a0 a1 a2 a3 a4 a5 a6 l7).bind fun v => some (v.1, v.2.1, v.2.2.1, v.2.2.2.1, v.2.2.2.2, 0) else some (0, 0, 0, ⟨#[]⟩, 0, 7)
    else none
  else some (0, 0, 0, ⟨#[]⟩, 0, 2)
theorem fnd_mono {p q : S27 → Option Bool} (h : ∀ y, LeO (p y) (q y)) : ∀ (l : List S27) (i : Nat), LeO (fnd p l i) (fnd q l i)
  | [], _ => LeO.refl _
  | y :: t, i => LeO.bind (h y) fun _ => LeO.ite (LeO.refl _) (fnd_mono h t (i + 1))
theorem calc_Eval.mono : ∀ a0 a1 a2 a3 a4 a5 a6 a7 a8 k, LeO (calc_Eval.f k a0 a1 a2 a3 a4 a5 a6 a7 a8) (calc_Eval.f (k + 1) a0 a1 a2 a3 a4 a5 a6 a7 a8) := fun a0 a1 a2 a3 a4 a5 a6 a7 a8 k =>
  LeO.bind (expr_Sound.mono _ _ _ _ _ _ _ _ k) fun _ => LeO.ite (LeO.ite (LeO.bind (fnd_mono (fun y => LeO.bind (value_Sound.mono _ _ _ _ _ k) fun _ => LeO.refl _) a8 0) fun _ => LeO.ite (LeO.refl _)
    (LeO.bind (expr_Names.mono _ _ _ _ _ _ _ _ k) fun _ => LeO.bind (LeO.refl _) fun _ => LeO.ite (LeO.bind (calc_scope_eval.mono _ _ _ _ _ _ _ _ _ k) fun _ => LeO.refl _) (LeO.refl _))) (LeO.none _)) (LeO.refl _)
theorem drop_str {l : List ByteArray} {i : Nat} (h : i < l.length) : l.drop i = rdOf ByteArray.empty l (i : Int) :: l.drop (i + 1) := by
  rw [List.drop_eq_getElem_cons h]
  congr 1
  show _ = l.getD (Int.toNat (i : Int)) ByteArray.empty
  rw [Int.toNat_natCast, List.getD_eq_getElem?_getD, List.getElem?_eq_getElem h, Option.getD_some]
theorem names_len {k : Nat} {a0 a1 a2 a3 : Int} {a4 : ByteArray} {a5 : Int} {a6 : ByteArray} {l7 : List S31} {ns : List ByteArray} (h : expr_Names.f k a0 a1 a2 a3 a4 a5 a6 l7 = some ns) : ns.length < 4611686018427387904 := by
  obtain ⟨ok, -, h⟩ := Option.bind_eq_some_iff.mp h
  split at h
  · obtain ⟨r, -, h⟩ := Option.bind_eq_some_iff.mp h
    split at h
    · rename_i hr
      obtain rfl := Option.some.inj h
      rw [List.length_map]
      refine Nat.lt_of_le_of_lt (compact_le _) ?_
      rwa [List.length_mergeSort, List.length_map]
    · cases h
  · obtain rfl := Option.some.inj h
    exact Nat.zero_lt_succ _
theorem below5 {n : Nat} {w0 w : World} {g : Nat} (h : Below n w0 w) (hg : n ≤ g) (a b c d e : Value) : Below n w0 (((((w.setCell ⟨g, 0, none⟩ a).setCell ⟨g, 1, none⟩ b).setCell ⟨g, 2, none⟩ c).setCell ⟨g, 3, none⟩ d).setCell ⟨g, 4, none⟩ e) :=
  ((((h.setCell (p := ⟨g, 0, none⟩) hg a).setCell (p := ⟨g, 1, none⟩) hg b).setCell (p := ⟨g, 2, none⟩) hg c).setCell (p := ⟨g, 3, none⟩) hg d).setCell (p := ⟨g, 4, none⟩) hg e
set_option maxHeartbeats 4000000 in
set_option maxRecDepth 100000 in
theorem calc_Eval.calls (k : Nat) (a0_0 a0_1 a0_2 a0_3 : Int) (a0_4 : ByteArray) (a0_5 : Int) (a0_6 : ByteArray) (A0_7 : Option Addr) (c0_7 : Nat) (l0_7 : List S31) (A1 : Option Addr) (c1 : Nat) (l1 : List S27) (r1 r2 r3 : Int) (r4 : ByteArray) (r5 r6 : Int) (w : World) (hr0_7 : Kd.C k31 w A0_7 l0_7.length l0_7) (hc0_7 : l0_7.length ≤ c0_7) (hr1 : Kd.C k27 w A1 l1.length l1) (hc1 : l1.length ≤ c1) (hT : Tabs w)
    (h : calc_Eval.f k a0_0 a0_1 a0_2 a0_3 a0_4 a0_5 a0_6 l0_7 l1 = some (r1, r2, r3, r4, r5, r6)) :
    Calls Tryz.prog 13 #[.agg #[.int .i64 a0_0, .int .i64 a0_1, .int .i64 a0_2, .int .i64 a0_3, .string a0_4, .int .i64 a0_5, .string a0_6, .slice A0_7 l0_7.length c0_7], .slice A1 l1.length c1] w fun e w' => e = .returned (.tuple #[.agg #[.int .i64 r1, .int .i64 r2, .int .i64 r3, .string r4, .int .i64 r5], .int .i64 r6]) ∧ Below w.heap.size w w' := by
  obtain ⟨ok, hs, h⟩ := Option.bind_eq_some_iff.mp h
  have cS := fun (W : World) (hb : Below w.heap.size w W) => expr_Sound.calls k a0_0 a0_1 a0_2 a0_3 a0_4 a0_5 a0_6 A0_7 c0_7 l0_7 ok W (Kd.C_below hr0_7 hb) hc0_7 (tabs_of hT hb) hs
  have hu31 := Tryz.underlying31
  have hu25 := Tryz.underlying25
  have HZ := Aside0.mk hT.null.pos
  have HTw := Aside0.mk hT
  cases ok with
  | false =>
    simp only [Bool.false_eq_true, if_false, Option.some.injEq, Prod.mk.injEq] at h
    obtain ⟨rfl, rfl, rfl, rfl, rfl, rfl⟩ := h
    clear hr0_7 hc0_7 hr1 hc1 hT hs
    go_enter Tryz.func13, Tryz.ntmps13
    go_wp2_with (first
      | ((with_reducible refine gate_dst (N := 2) rfl ?_); refine bev (#[.int .i64 a0_0, .int .i64 a0_1, .int .i64 a0_2, .int .i64 a0_3, .string a0_4, .int .i64 a0_5, .string a0_6, .slice A0_7 l0_7.length c0_7]) 31 ?_; intro gx hgx w1 hbox hb1
         have HB := Aside0.mk hb1; have HX := Aside0.mk hbox; have HGX := Aside0.mk (show w.heap.size ≤ gx from by rw [hgx]; exact Nat.le_refl _); clear hgx hbox hb1)
      | ((with_reducible refine gate_dst (N := 4) rfl ?_); refine bev (#[.int .i64 0, .int .i64 0, .int .i64 0, .string (⟨#[]⟩ : ByteArray), .int .i64 0]) 25 ?_; intro g4 hg4 w2 hbox hb1
         have H4 := Aside0.mk hbox; have HG4 := Aside0.mk (show w.heap.size ≤ g4 from by rw [hg4]; exact HB.out.size); replace HX := Aside0.mk (blk_below HX.out hb1); replace HB := Aside0.mk (HB.out.trans (hb1.mono HB.out.size)); obtain ⟨x0, x1, x2, x3, x4, x5, x6, x7, _⟩ := cz8 HX.out; clear hg4 hbox hb1)
      | (go_at_call 35; refine (cS _ HB.out).mono ?_; rintro e w3 ⟨rfl, hb3⟩; replace H4 := Aside0.mk (blk_below H4.out hb3); replace HB := Aside0.mk (HB.out.trans (hb3.mono HB.out.size)); obtain ⟨q0, q1, q2, q3, q4, f0, f1, f2, f3, f4⟩ := cz5 H4.out
         obtain ⟨n0, n1, n2, n3, n4⟩ := nullHere HTw.out HB.out; have hz4 := ne0 HZ.out HG4.out; clear hb3))
    refine bodyPost_ret (results_ct rfl _ _ g4 25 #[.int .i64 0, .int .i64 0, .int .i64 0, .string (⟨#[]⟩ : ByteArray), .int .i64 0] (0, 0) _ rfl (put5 H4.out) Tryz.underlying25 rfl (by kernel_rfl)) rfl ?_
    exact ⟨rfl, below5 HB.out HG4.out _ _ _ _ _⟩
  | true =>
    simp only [if_true] at h
    split at h
    rotate_left
    · cases h
    rename_i hbig
    obtain ⟨r, hr, h⟩ := Option.bind_eq_some_iff.mp h
    by_cases h0 : 0 ≤ r
    · rw [if_pos h0] at h
      simp only [Option.some.injEq, Prod.mk.injEq] at h
      obtain ⟨rfl, rfl, rfl, rfl, rfl, rfl⟩ := h
      have d0 : decide (0 ≤ r) = true := decide_eq_true h0
      go_enter Tryz.func13, Tryz.ntmps13
      go_wp2_with (first
        | ((with_reducible refine gate_dst (N := 2) rfl ?_); refine bev (#[.int .i64 a0_0, .int .i64 a0_1, .int .i64 a0_2, .int .i64 a0_3, .string a0_4, .int .i64 a0_5, .string a0_6, .slice A0_7 l0_7.length c0_7]) 31 ?_; intro gx hgx w1 hbox hb1; have HB := Aside0.mk hb1; have HX := Aside0.mk hbox; have HGX := Aside0.mk (show w.heap.size ≤ gx from by rw [hgx]; exact Nat.le_refl _); clear hgx hbox hb1)
        | ((with_reducible refine gate_dst (N := 4) rfl ?_); refine bev (#[.int .i64 0, .int .i64 0, .int .i64 0, .string (⟨#[]⟩ : ByteArray), .int .i64 0]) 25 ?_; intro g4 hg4 w2 hbox hb1; have H4 := Aside0.mk hbox; have HG4 := Aside0.mk (show w.heap.size ≤ g4 from by rw [hg4]; exact HB.out.size); replace HX := Aside0.mk (blk_below HX.out hb1); replace HB := Aside0.mk (HB.out.trans (hb1.mono HB.out.size)); obtain ⟨x0, x1, x2, x3, x4, x5, x6, x7, _⟩ := cz8 HX.out; clear hg4 hbox hb1)
        | (go_at_call 35; refine (cS _ HB.out).mono ?_; rintro e w3 ⟨rfl, hb3⟩; replace H4 := Aside0.mk (blk_below H4.out hb3); replace HX := Aside0.mk (blk_below HX.out hb3); replace HB := Aside0.mk (HB.out.trans (hb3.mono HB.out.size)); obtain ⟨x0, x1, x2, x3, x4, x5, x6, x7, _⟩ := cz8 HX.out; obtain ⟨q0, q1, q2, q3, q4, f0, f1, f2, f3, f4⟩ := cz5 H4.out; obtain ⟨n0, n1, n2, n3, n4⟩ := nullHere HTw.out HB.out; have hz4 := ne0 HZ.out HG4.out; clear hb3)
        | (go_at_call 36; refine (has27 37 #[] (unsound27 k) (enters_of Tryz.func37 (by kernel_rfl) rfl) l1 A1 c1 r _ (Kd.C_below hr1 HB.out) (gives37 k _ (tabs_of hT HB.out)) hbig hr).mono ?_; rintro e w3 ⟨rfl, hb3⟩; replace H4 := Aside0.mk (blk_below H4.out hb3); replace HX := Aside0.mk (blk_below HX.out hb3); replace HB := Aside0.mk (HB.out.trans (hb3.mono HB.out.size)); obtain ⟨x0, x1, x2, x3, x4, x5, x6, x7, _⟩ := cz8 HX.out; obtain ⟨q0, q1, q2, q3, q4, f0, f1, f2, f3, f4⟩ := cz5 H4.out; obtain ⟨n0, n1, n2, n3, n4⟩ := nullHere HTw.out HB.out; have hz4 := ne0 HZ.out HG4.out; clear hb3))
      refine bodyPost_ret (results_ct rfl _ _ g4 25 #[.int .i64 0, .int .i64 0, .int .i64 0, .string (⟨#[]⟩ : ByteArray), .int .i64 0] (0, 0) _ rfl (put5 H4.out) Tryz.underlying25 rfl (by kernel_rfl)) rfl ?_
      exact ⟨rfl, below5 HB.out HG4.out _ _ _ _ _⟩
    rw [if_neg h0] at h
    have d0 : decide (0 ≤ r) = false := decide_eq_false h0
    obtain ⟨ns, hn, h⟩ := Option.bind_eq_some_iff.mp h
    have hnl := names_len hn
    obtain ⟨all, hall, h⟩ := Option.bind_eq_some_iff.mp h
    have HA0 : Aside0 (allHave l1 (ns.drop 0) = some all) := ⟨hall⟩
    have HH := Aside0.mk h
    clear hall h
    go_enter Tryz.func13, Tryz.ntmps13
    go_wp2_with (first
      | ((with_reducible refine gate_dst (N := 2) rfl ?_); refine bev (#[.int .i64 a0_0, .int .i64 a0_1, .int .i64 a0_2, .int .i64 a0_3, .string a0_4, .int .i64 a0_5, .string a0_6, .slice A0_7 l0_7.length c0_7]) 31 ?_; intro gx hgx w1 hbox hb1; have HB := Aside0.mk hb1; have HX := Aside0.mk hbox; have HGX := Aside0.mk (show w.heap.size ≤ gx from by rw [hgx]; exact Nat.le_refl _); clear hgx hbox hb1)
      | ((with_reducible refine gate_dst (N := 4) rfl ?_); refine bev (#[.int .i64 0, .int .i64 0, .int .i64 0, .string (⟨#[]⟩ : ByteArray), .int .i64 0]) 25 ?_; intro g4 hg4 w2 hbox hb1; have H4 := Aside0.mk hbox; have HG4 := Aside0.mk (show w.heap.size ≤ g4 from by rw [hg4]; exact HB.out.size); replace HX := Aside0.mk (blk_below HX.out hb1); replace HB := Aside0.mk (HB.out.trans (hb1.mono HB.out.size)); obtain ⟨x0, x1, x2, x3, x4, x5, x6, x7, _⟩ := cz8 HX.out; clear hg4 hbox hb1)
      | (go_at_call 35; refine (cS _ HB.out).mono ?_; rintro e w3 ⟨rfl, hb3⟩; replace H4 := Aside0.mk (blk_below H4.out hb3); replace HX := Aside0.mk (blk_below HX.out hb3); replace HB := Aside0.mk (HB.out.trans (hb3.mono HB.out.size)); obtain ⟨x0, x1, x2, x3, x4, x5, x6, x7, _⟩ := cz8 HX.out; obtain ⟨q0, q1, q2, q3, q4, f0, f1, f2, f3, f4⟩ := cz5 H4.out; obtain ⟨n0, n1, n2, n3, n4⟩ := nullHere HTw.out HB.out; have hz4 := ne0 HZ.out HG4.out; clear hb3)
      | (go_at_call 36; refine (has27 37 #[] (unsound27 k) (enters_of Tryz.func37 (by kernel_rfl) rfl) l1 A1 c1 r _ (Kd.C_below hr1 HB.out) (gives37 k _ (tabs_of hT HB.out)) hbig hr).mono ?_; rintro e w3 ⟨rfl, hb3⟩; replace H4 := Aside0.mk (blk_below H4.out hb3); replace HX := Aside0.mk (blk_below HX.out hb3); replace HB := Aside0.mk (HB.out.trans (hb3.mono HB.out.size)); obtain ⟨x0, x1, x2, x3, x4, x5, x6, x7, _⟩ := cz8 HX.out; obtain ⟨q0, q1, q2, q3, q4, f0, f1, f2, f3, f4⟩ := cz5 H4.out; obtain ⟨n0, n1, n2, n3, n4⟩ := nullHere HTw.out HB.out; have hz4 := ne0 HZ.out HG4.out; clear hb3)
      | (go_at_call 39; refine (expr_Names.calls k a0_0 a0_1 a0_2 a0_3 a0_4 a0_5 a0_6 A0_7 c0_7 l0_7 ns _ (Kd.C_below hr0_7 HB.out) hc0_7 (tabs_of hT HB.out) hn).mono ?_; rintro e w3 ⟨An, cn, rfl, hCn, hb3⟩; have HCn := Aside0.mk hCn; clear hCn; replace H4 := Aside0.mk (blk_below H4.out hb3); replace HX := Aside0.mk (blk_below HX.out hb3); replace HB := Aside0.mk (HB.out.trans (hb3.mono HB.out.size)); obtain ⟨x0, x1, x2, x3, x4, x5, x6, x7, _⟩ := cz8 HX.out; obtain ⟨q0, q1, q2, q3, q4, f0, f1, f2, f3, f4⟩ := cz5 H4.out; obtain ⟨n0, n1, n2, n3, n4⟩ := nullHere HTw.out HB.out; have hz4 := ne0 HZ.out HG4.out; clear hb3))
    clear cS hs hr hn x0 x1 x2 x3 x4 x5 x6 x7 q0 q1 q2 q3 q4 f0 f1 f2 f3 f4 n0 n1 n2 n3 n4
    go_loopg [19] ns.length (fun gg s19 wr => ∃ kk : Nat, kk + gg = ns.length ∧ s19 = .int .i64 kk ∧ Aside0 (allHave l1 (ns.drop kk) = some all) ∧ Aside0 (Below w3.heap.size w3 wr))
    case atStart => exact ⟨0, Nat.zero_add _, rfl, HA0, ⟨Below.refl _ _⟩⟩
    case round =>
      obtain ⟨kk, hkg, rfl, HA, HW⟩ := hrel
      have HB1 := Aside0.mk (HB.out.trans (HW.out.mono HB.out.size))
      have H41 := Aside0.mk (blk_below H4.out HW.out)
      have HX1 := Aside0.mk (blk_below HX.out HW.out)
      obtain ⟨x0, x1, x2, x3, x4, x5, x6, x7, _⟩ := cz8 HX1.out
      obtain ⟨q0, q1, q2, q3, q4, f0, f1, f2, f3, f4⟩ := cz5 H41.out
      obtain ⟨n0, n1, n2, n3, n4⟩ := nullHere HTw.out HB1.out
      cases gk with
      | zero =>
        have d1 : decide ((kk : Int) < (ns.length : Int)) = false := decide_eq_false (by omega)
        have hA := HA.out
        rw [List.drop_eq_nil_of_le (by omega)] at hA
        obtain rfl := Option.some.inj hA
        have hh := HH.out
        simp only [if_true] at hh
        obtain ⟨⟨v1, v2, v3, v4, v5⟩, hv, hh⟩ := Option.bind_eq_some_iff.mp hh
        simp only [Option.some.injEq, Prod.mk.injEq] at hh
        obtain ⟨rfl, rfl, rfl, rfl, rfl, rfl⟩ := hh
        have cE := calc_scope_eval.calls k A1 c1 l1 a0_0 a0_1 a0_2 a0_3 a0_4 a0_5 a0_6 A0_7 c0_7 l0_7 v1 v2 v3 v4 v5 wr (Kd.C_below hr1 HB1.out) hc1 (Kd.C_below hr0_7 HB1.out) hc0_7 (tabs_of hT HB1.out) hv
        clear hv hr1 hr0_7 hT
        go_wp2_with (go_at_call 41; refine cE.mono ?_; rintro e w9 ⟨rfl, hb9⟩; have H49 := Aside0.mk (blk_below H41.out hb9); have HB9 := Aside0.mk (HB1.out.trans (hb9.mono HB1.out.size)); obtain ⟨p0, p1, p2, p3, p4, g0, g1, g2, g3, g5⟩ := cz5 H49.out; clear hb9)
        refine bodyPost_ret (results_ct rfl _ _ g4 25 #[.int .i64 v1, .int .i64 v2, .int .i64 v3, .string v4, .int .i64 v5] (0, 0) _ rfl (put5 H49.out) Tryz.underlying25 rfl (by kernel_rfl)) rfl ?_
        exact ⟨rfl, below5 HB9.out HG4.out _ _ _ _ _⟩
      | succ n =>
        have d1 : decide ((kk : Int) < (ns.length : Int)) = true := decide_eq_true (by omega)
        have p1 : (0 : Int) ≤ (kk : Int) := by omega
        have q1' : (kk : Int) < (ns.length : Int) := by omega
        obtain ⟨ad, e1, hx⟩ := Kd.at_string HCn.out (kk : Int) p1 q1'
        cases e1
        have hx2 : wr.cell? (ad.add kk) = some (.string (rdOf ByteArray.empty ns (kk : Int))) := pw_cell_below HW.out hx
        have i1 := eq_true p1
        have i2 := eq_true q1'
        have i3 : (kk < ns.length) = True := eq_true (by omega)
        have hA := HA.out
        rw [show ns.drop kk = rdOf ByteArray.empty ns (kk : Int) :: ns.drop (kk + 1) from drop_str (by omega)] at hA
        generalize rdOf ByteArray.empty ns (kk : Int) = y at hA hx hx2
        simp only [allHave] at hA
        obtain ⟨rr, hf, hA⟩ := Option.bind_eq_some_iff.mp hA
        have HA2 := Aside0.mk hA
        clear hA hx q0 q1 q2 q3 q4 f0 f1 f2 f3 f4 n0 n1 n2 n3 n4 x0 x1 x2 x3 x4 x5 x6 x7
        by_cases hrr : 0 ≤ rr
        · have d2 : decide (0 ≤ rr) = true := decide_eq_true hrr
          have hA := HA2.out
          rw [if_pos hrr] at hA
          have HA3 := Aside0.mk hA
          clear hA
          go_wp2_with (first
            | ((with_reducible refine gate_dst (N := 7) rfl ?_); refine bev (#[.string (⟨#[]⟩ : ByteArray)]) 9 ?_; intro gn hgn w5 hbox hb1; have HN := Aside0.mk hbox; have HGN := Aside0.mk (show w.heap.size ≤ gn from by rw [hgn]; exact HB1.out.size); have HWN := Aside0.mk (show w3.heap.size ≤ gn from by rw [hgn]; exact HW.out.size); have HB5 := Aside0.mk (HB1.out.trans (hb1.mono HB1.out.size)); have HW5 := Aside0.mk (HW.out.trans (hb1.mono HW.out.size)); obtain ⟨z0, z1⟩ := cz1 hbox; have zn := ne0 HZ.out HGN.out; clear hgn hbox hb1)
            | (go_at_call 36; refine (has27 40 #[.pointer (some ⟨gn, 0, none⟩)] (fun z => some (z.f0.toList == y.toList)) (enters_of Tryz.func40 (by kernel_rfl) rfl) l1 A1 c1 rr _ (Kd.C_below hr1 (HB5.out.setCell (p := ⟨gn, 0, none⟩) HGN.out _)) (gives40 gn y _ (blk_put HN.out 0 _ rfl)) hbig hf).mono ?_; rintro e w9 ⟨rfl, hb9⟩; have HW9 := Aside0.mk ((HW5.out.setCell (p := ⟨gn, 0, none⟩) HWN.out (.string y)).trans (hb9.mono (HW5.out.setCell (p := ⟨gn, 0, none⟩) HWN.out (.string y)).size)); have HB9 := Aside0.mk (HB.out.trans (HW9.out.mono HB.out.size)); have H49 := Aside0.mk (blk_below H4.out HW9.out); obtain ⟨q0, q1, q2, q3, q4, f0, f1, f2, f3, f4⟩ := cz5 H49.out; obtain ⟨n0, n1, n2, n3, n4⟩ := nullHere HTw.out HB9.out; have hz4 := ne0 HZ.out HG4.out; clear hb9))
          go_roundg n
          case measure => omega
          case rel => exact ⟨kk + 1, by omega, by go_num, HA3, HW9⟩
        · have d2 : decide (0 ≤ rr) = false := decide_eq_false hrr
          have hA := HA2.out
          rw [if_neg hrr] at hA
          obtain rfl := Option.some.inj hA
          have hh := HH.out
          simp only [Bool.false_eq_true, if_false, Option.some.injEq, Prod.mk.injEq] at hh
          obtain ⟨rfl, rfl, rfl, rfl, rfl, rfl⟩ := hh
          clear hA
          go_wp2_with (first
            | ((with_reducible refine gate_dst (N := 7) rfl ?_); refine bev (#[.string (⟨#[]⟩ : ByteArray)]) 9 ?_; intro gn hgn w5 hbox hb1; have HN := Aside0.mk hbox; have HGN := Aside0.mk (show w.heap.size ≤ gn from by rw [hgn]; exact HB1.out.size); have HWN := Aside0.mk (show w3.heap.size ≤ gn from by rw [hgn]; exact HW.out.size); have HB5 := Aside0.mk (HB1.out.trans (hb1.mono HB1.out.size)); have HW5 := Aside0.mk (HW.out.trans (hb1.mono HW.out.size)); obtain ⟨z0, z1⟩ := cz1 hbox; have zn := ne0 HZ.out HGN.out; clear hgn hbox hb1)
            | (go_at_call 36; refine (has27 40 #[.pointer (some ⟨gn, 0, none⟩)] (fun z => some (z.f0.toList == y.toList)) (enters_of Tryz.func40 (by kernel_rfl) rfl) l1 A1 c1 rr _ (Kd.C_below hr1 (HB5.out.setCell (p := ⟨gn, 0, none⟩) HGN.out _)) (gives40 gn y _ (blk_put HN.out 0 _ rfl)) hbig hf).mono ?_; rintro e w9 ⟨rfl, hb9⟩; have HW9 := Aside0.mk ((HW5.out.setCell (p := ⟨gn, 0, none⟩) HWN.out (.string y)).trans (hb9.mono (HW5.out.setCell (p := ⟨gn, 0, none⟩) HWN.out (.string y)).size)); have HB9 := Aside0.mk (HB.out.trans (HW9.out.mono HB.out.size)); have H49 := Aside0.mk (blk_below H4.out HW9.out); obtain ⟨q0, q1, q2, q3, q4, f0, f1, f2, f3, f4⟩ := cz5 H49.out; obtain ⟨n0, n1, n2, n3, n4⟩ := nullHere HTw.out HB9.out; have hz4 := ne0 HZ.out HG4.out; clear hb9))
          refine bodyPost_ret (results_ct rfl _ _ g4 25 #[.int .i64 0, .int .i64 0, .int .i64 0, .string (⟨#[]⟩ : ByteArray), .int .i64 0] (0, 0) _ rfl (put5 H49.out) Tryz.underlying25 rfl (by kernel_rfl)) rfl ?_
          exact ⟨rfl, below5 HB9.out HG4.out _ _ _ _ _⟩
end Go.Proofs.YtgkemhgihbfmmaaGreatDoor.PA
end
section
namespace Go.Proofs.YtgkemhgihbfmmaaGreatDoor.PA
open Go.RowKit Go.Proofs.YtgkemhgihbfmmaaGreatDoorW.PrintWords Go.Proofs.YtgkemhgihbfmmaaGreatDoorW.PrintLast Go.Proofs.YtgkemhgihbfmmaaGreatDoorW.PrintMore
attribute [local go_sem] max2_int min2_int max_two min_two max_three min_three max_four min_four isSome_set str_gtr
set_option linter.unusedVariables false
set_option linter.unusedSimpArgs false
attribute [local go_sem high] eqA25
def soffitlaw11_awake.f (k : Nat)  : Option (Bool) := (expr_Parse.f k (⟨#[105, 102, 32, 97, 32, 62, 32, 50, 32, 116, 104, 101, 110, 32, 97, 32, 42, 32, 50, 46, 53, 32, 101, 108, 115, 101, 32, 110, 117, 108, 108]⟩ : ByteArray)).bind fun bt935 => ((calc_Eval.f k bt935.1 bt935.2.1 bt935.2.2.1 bt935.2.2.2.1 bt935.2.2.2.2.1 bt935.2.2.2.2.2.1 bt935.2.2.2.2.2.2.1 bt935.2.2.2.2.2.2.2.1 (([(⟨(⟨#[97]⟩ : ByteArray), (⟨1, (⟨3, 0⟩ : S23), (⟨#[]⟩ : ByteArray), 0⟩ : S25)⟩ : S27)] : List (S27)))).bind fun bt951 => (if bt935.2.2.2.2.2.2.2.2.2 = 0 then (if bt951.2.2.2.2.2 = 0 then (some (bt951.1 == 1 && ((bt951.2.1 == 75 && (bt951.2.2.1 == 1)) && (bt951.2.2.2.1.toList == ([] : List UInt8) && (bt951.2.2.2.2.1 == 0))))) else (some false)) else (some false)))
theorem soffitlaw11_awake.mono : ∀ k, LeO (soffitlaw11_awake.f k ) (soffitlaw11_awake.f (k + 1) ) := by
 intro  k
 unfold soffitlaw11_awake.f
 have q0 := @calc_Eval.mono; have q1 := @expr_Parse.mono; exact lmo
set_option maxHeartbeats 8000000 in
set_option maxRecDepth 100000 in
theorem soffitlaw11_awake.calls (k : Nat)  (r : Bool) (w : World) (hT : Tabs w) (h : soffitlaw11_awake.f k  = some r) :
  Calls Tryz.prog 14 #[] w fun e w' => e = .returned (.bool r) ∧ Below w.heap.size w w' := by
 have hu31 := Tryz.underlying31
 have hu23 := Tryz.underlying23
 have hu25 := Tryz.underlying25
 have hu27 := Tryz.underlying27
 have HT := am hT
 clear hT
 have HB := am (Below.refl w.heap.size w)
 have H : ((expr_Parse.f k (⟨#[105, 102, 32, 97, 32, 62, 32, 50, 32, 116, 104, 101, 110, 32, 97, 32, 42, 32, 50, 46, 53, 32, 101, 108, 115, 101, 32, 110, 117, 108, 108]⟩ : ByteArray)).bind fun bt935 => ((calc_Eval.f k bt935.1 bt935.2.1 bt935.2.2.1 bt935.2.2.2.1 bt935.2.2.2.2.1 bt935.2.2.2.2.2.1 bt935.2.2.2.2.2.2.1 bt935.2.2.2.2.2.2.2.1 (([(⟨(⟨#[97]⟩ : ByteArray), (⟨1, (⟨3, 0⟩ : S23), (⟨#[]⟩ : ByteArray), 0⟩ : S25)⟩ : S27)] : List (S27)))).bind fun bt951 => (if bt935.2.2.2.2.2.2.2.2.2 = 0 then (if bt951.2.2.2.2.2 = 0 then (some (bt951.1 == 1 && ((bt951.2.1 == 75 && (bt951.2.2.1 == 1)) && (bt951.2.2.2.1.toList == ([] : List UInt8) && (bt951.2.2.2.2.1 == 0))))) else (some false)) else (some false)))) = some r := h
 clear h
 replace H := obe10 H
 obtain ⟨t935, t936, t937, t938, t939, t940, t941, t942, t945, t946, A1, H⟩ := H
 obtain ⟨y948, hy948⟩ : ∃ y_ : List (S27), y_ = (([(⟨(⟨#[97]⟩ : ByteArray), (⟨1, (⟨3, 0⟩ : S23), (⟨#[]⟩ : ByteArray), 0⟩ : S25)⟩ : S27)] : List (S27))) := ⟨_, rfl⟩
 replace H : ((calc_Eval.f k t935 t936 t937 t938 t939 t940 t941 t942 y948).bind fun bt951 => (if t946 = 0 then (if bt951.2.2.2.2.2 = 0 then (some (bt951.1 == 1 && ((bt951.2.1 == 75 && (bt951.2.2.1 == 1)) && (bt951.2.2.2.1.toList == ([] : List UInt8) && (bt951.2.2.2.2.1 == 0))))) else (some false)) else (some false))) = some r := by first | (rw [hy948]; with_reducible exact H) | (have H2_ := (Option.bind_some _ _).symm.trans H; rw [hy948]; with_reducible exact H2_) | (have H2_ := (Option.bind_some _ _).symm.trans H; with_reducible exact H2_) | with_reducible exact H | (rw [hy948]; exact H) | exact H
 have Ny948 := am hy948
 clear hy948
 replace H := obe6 H
 obtain ⟨t951, t952, t953, t954, t955, t956, A2, H⟩ := H
 have HC3 := am H
 clear H
 go_enter Tryz.func14, Tryz.ntmps14
 go_upto_region 3 with (first | ((with_reducible refine gate_callee (f := 12) rfl ?_); refine gl_ (some 7) Tryz.func12 (by kernel_rfl) #[.string (⟨#[105, 102, 32, 97, 32, 62, 32, 50, 32, 116, 104, 101, 110, 32, 97, 32, 42, 32, 50, 46, 53, 32, 101, 108, 115, 101, 32, 110, 117, 108, 108]⟩ : ByteArray)] rfl ?_; (with_reducible refine (expr_Parse.calls k (⟨#[105, 102, 32, 97, 32, 62, 32, 50, 32, 116, 104, 101, 110, 32, 97, 32, 42, 32, 50, 46, 53, 32, 101, 108, 115, 101, 32, 110, 117, 108, 108]⟩ : ByteArray) t935 t936 t937 t938 t939 t940 t941 t942 t945 t946 _ ?side1 A1.out).mono ?_); (case side1 => exact tabs_of HT.out (bz HB.out)); rintro e w4 ⟨v943, rfl, ho0, hb⟩; refine ⟨_, rfl, ?_⟩; have HO944 := am (Kd.V_lower (Kd.V_mono (ok' := fun k_ => True) ho0 (fun k_ hk_ => trivial)) (below_size (bz HB.out))); replace HB := sb HB hb; clear hb ho0) | ((with_reducible refine gate_dst (N := 1) rfl ?_); refine bev (#[.int .i64 0, .int .i64 0, .int .i64 0, .int .i64 0, .string (⟨#[]⟩ : ByteArray), .int .i64 0, .string (⟨#[]⟩ : ByteArray), .slice none 0 0]) 31 ?_; intro gb947 hg w5 hbox hb; replace HO944 := am (Kd.V_below (Kd.V_elderB (vv HO944.out) gb947 (Nat.le_of_eq hg.symm)) hb); have BK947 := am (hbox); have GW947 := gs hg HB; have GE947 := GW947; replace HB := sb HB hb; clear hb hbox hg; obtain ⟨Z6_0, Z6_1, Z6_2, Z6_3, Z6_4, Z6_5, Z6_6, Z6_7, F6_0, F6_1, F6_2, F6_3, F6_4, F6_5, F6_6, F6_7⟩ := cz8 BK947.out; obtain ⟨Ao7, co7, eo7⟩ := Kd.V_slice HO944.out; subst eo7) | ((with_reducible refine gate_dst (N := 16) rfl ?_); refine rlit k27 27 ([(⟨(⟨#[97]⟩ : ByteArray), (⟨1, (⟨3, 0⟩ : S23), (⟨#[]⟩ : ByteArray), 0⟩ : S25)⟩ : S27)] : List (S27)) [.string (⟨#[97]⟩ : ByteArray), .int .i64 1, .int .i64 3, .int .i64 0, .string (⟨#[]⟩ : ByteArray), .int .i64 0] ?_ (Below.refl _ _) (Nat.le_refl _) (Reps.c6 (show Kd.M k27 _ _ _ (⟨(⟨#[97]⟩ : ByteArray), (⟨1, (⟨3, 0⟩ : S23), (⟨#[]⟩ : ByteArray), 0⟩ : S25)⟩ : S27) [.string (⟨#[97]⟩ : ByteArray), .int .i64 1, .int .i64 3, .int .i64 0, .string (⟨#[]⟩ : ByteArray), .int .i64 0] from (k27_mkM _ _ _ (⟨(⟨#[97]⟩ : ByteArray), (⟨1, (⟨3, 0⟩ : S23), (⟨#[]⟩ : ByteArray), 0⟩ : S25)⟩ : S27) )) (Reps.none _ _)); intro v949 w8 ho9 hb hg_ hnew_; clear hg_ hnew_; (first | rw [← Ny948.out] at ho9 | (simp only [Int.reduceToNat] at ho9; rw [← Ny948.out] at ho9)); replace HO944 := am (Kd.V_elder' (by (with_reducible repeat (first | apply Kd.V_alloc | apply Kd.V_drewN | apply Kd.V_drew)); exact (Kd.V_mono (Kd.V_far (p := ⟨gb947, 7, none⟩) (Kd.V_far (p := ⟨gb947, 6, none⟩) (Kd.V_far (p := ⟨gb947, 5, none⟩) (Kd.V_far (p := ⟨gb947, 4, none⟩) (Kd.V_far (p := ⟨gb947, 3, none⟩) (Kd.V_far (p := ⟨gb947, 2, none⟩) (Kd.V_far (p := ⟨gb947, 1, none⟩) (Kd.V_far (p := ⟨gb947, 0, none⟩) (Kd.V_mono HO944.out (fun k_ hk => (⟨hk, hk.2⟩ : _ ∧ k_ ≠ gb947))) (fun _ hk => hk.2) (.int .i64 t935)) (fun _ hk => hk.2) (.int .i64 t936)) (fun _ hk => hk.2) (.int .i64 t937)) (fun _ hk => hk.2) (.int .i64 t938)) (fun _ hk => hk.2) (.string t939)) (fun _ hk => hk.2) (.int .i64 t940)) (fun _ hk => hk.2) (.string t941)) (fun _ hk => hk.2) (.slice Ao7 t942.length co7)) (fun _ h_ => h_.1))) (Kd.R_base ho9) hb); have HO950 := am (Kd.R_lower ho9 (below_size (bz HB.out))); replace BK947 := am (blk_below (g := gb947) (o := .cells #[.int .i64 t935, .int .i64 t936, .int .i64 t937, .int .i64 t938, .string t939, .int .i64 t940, .string t941, .slice Ao7 t942.length co7] 31 (0, 0)) (bp BK947.out) hb); replace HB := sb HB hb; clear hb ho9; obtain ⟨Ao10, co10, eo10⟩ := Kd.R_slice HO950.out; subst eo10) | ((with_reducible refine gate_callee (f := 13) rfl ?_); refine gl_ (some 17) Tryz.func13 (by kernel_rfl) #[.agg #[.int .i64 t935, .int .i64 t936, .int .i64 t937, .int .i64 t938, .string t939, .int .i64 t940, .string t941, .slice Ao7 t942.length co7], .slice Ao10 y948.length co10] rfl ?_; (with_reducible refine (calc_Eval.calls k t935 t936 t937 t938 t939 t940 t941 _ _ t942 _ _ y948 t951 t952 t953 t954 t955 t956 _ ?side1 ?side2 ?side3 ?side4 ?side5 A2.out).mono ?_); (case side1 => repeat (first | exact (Kd.V_reads' HO944.out).2.2 | (with_reducible refine Kd.C_alloc ?_ _) | (with_reducible refine Kd.C_drewN ?_ _) | (with_reducible refine Kd.C_drew ?_))); (case side2 => exact (Kd.V_reads' HO944.out).2.1); (case side3 => repeat (first | exact (Kd.R_reads' HO950.out).2.2 | (with_reducible refine Kd.C_alloc ?_ _) | (with_reducible refine Kd.C_drewN ?_ _) | (with_reducible refine Kd.C_drew ?_))); (case side4 => exact (Kd.R_reads' HO950.out).2.1); (case side5 => exact tabs_of HT.out (bz HB.out)); rintro e w11 ⟨rfl, hb⟩; refine ⟨_, rfl, ?_⟩; replace HO944 := am (Kd.V_below (vv HO944.out) hb); replace HO950 := am (Kd.R_below (rr HO950.out) hb); replace BK947 := kb BK947 hb; replace HB := sb HB hb; clear hb) | ((with_reducible refine gate_dst (N := 4) rfl ?_); refine bev (#[.int .i64 0, .int .i64 0, .int .i64 0, .string (⟨#[]⟩ : ByteArray), .int .i64 0]) 25 ?_; intro gb957 hg w12 hbox hb; replace HO944 := am (Kd.V_below (Kd.V_elderB (vv HO944.out) gb957 (Nat.le_of_eq hg.symm)) hb); replace HO950 := am (Kd.R_below (rr HO950.out) hb); have BK957 := am (hbox); have GW957 := gs hg HB; have GE957 := GW957; replace HB := sb HB hb; have NB947_957 := na hg BK947; have NB957_947 := nb hg BK947; replace BK947 := kb BK947 hb; clear hb hbox hg; have hnb13 := NB957_947.out; have hnc13 := NB947_957.out; obtain ⟨Z14_0, Z14_1, Z14_2, Z14_3, Z14_4, F14_0, F14_1, F14_2, F14_3, F14_4⟩ := cz5 BK957.out))
 (try simp only [Act.put, List.setIfInBounds_toArray, List.set_cons_zero, List.set_cons_succ])
 have H := HC3.out
 clear HC3
 clear Z6_0 Z6_1 Z6_2 Z6_3 Z6_4 Z6_5 Z6_6 Z6_7 F6_0 F6_1 F6_2 F6_3 F6_4 F6_5 F6_6 F6_7 Z14_0 Z14_1 Z14_2 Z14_3 Z14_4 F14_0 F14_1 F14_2 F14_3 F14_4
 by_cases c15 : t946 = 0
 ·replace H := ipe c15 H
  obtain ⟨H, c15b0, c15b1⟩ := H
  clear c15
  (first | rw [c15b0] | (simp only [i64_w, i32_w]; rw [c15b0]) | skip)
  by_cases c16 : t956 = 0
  ·replace H := ipe c16 H
   obtain ⟨H, c16b0, c16b1⟩ := H
   clear c16
   obtain rfl := Option.some.inj H
   have hnb17 := NB957_947.out
   have hnc17 := NB947_957.out
   obtain ⟨Z18_0, Z18_1, Z18_2, Z18_3, Z18_4, F18_0, F18_1, F18_2, F18_3, F18_4⟩ := cz5 BK957.out
   go_wp2
   go_ret
   exact ⟨az, bz HB.out⟩
  replace H := ine c16 H
  obtain ⟨H, c16b0, c16b1⟩ := H
  obtain rfl := Option.some.inj H
  go_wp2
  go_ret
  exact ⟨az, bz HB.out⟩
 replace H := ine c15 H
 obtain ⟨H, c15b0, c15b1⟩ := H
 (first | rw [c15b0] | (simp only [i64_w, i32_w]; rw [c15b0]) | skip)
 obtain rfl := Option.some.inj H
 go_wp2
 go_ret
 exact ⟨az, bz HB.out⟩
end Go.Proofs.YtgkemhgihbfmmaaGreatDoor.PA
end
section
namespace Go.Proofs.YtgkemhgihbfmmaaGreatDoor.PA
open Go.RowKit Go.Proofs.YtgkemhgihbfmmaaGreatDoorW.PrintWords Go.Proofs.YtgkemhgihbfmmaaGreatDoorW.PrintLast Go.Proofs.YtgkemhgihbfmmaaGreatDoorW.PrintMore
attribute [local go_sem] max2_int min2_int max_two min_two max_three min_three max_four min_four isSome_set str_gtr
set_option linter.unusedVariables false
set_option linter.unusedSimpArgs false
attribute [local go_sem high] eqA25
mutual
def calc_Equal.j0 : Nat → Bool → Int → Int → Int → ByteArray → Int → Int → Int → Int → ByteArray → Int → Option (Int × Int × Int × ByteArray × Int)
 | 0, _, _, _, _, _, _, _, _, _, _, _ => none
 | k + 1, x5, x959000, x959001, x959002, x959003, x959004, x960000, x960001, x960002, x960003, x960004 => if x5 = true then (some (0, 0, 0, (⟨#[]⟩ : ByteArray), 0)) else (if x959000 = 0 then (calc_Equal.j1 k true x959000 x959001 x959002 x959003 x959004 x960000 x960001 x960002 x960003 x960004) else (calc_Equal.j1 k (x960000 == 0) x959000 x959001 x959002 x959003 x959004 x960000 x960001 x960002 x960003 x960004))
def calc_Equal.j1 : Nat → Bool → Int → Int → Int → ByteArray → Int → Int → Int → Int → ByteArray → Int → Option (Int × Int × Int × ByteArray × Int)
 | 0, _, _, _, _, _, _, _, _, _, _, _ => none
 | k + 1, x15, x959000, x959001, x959002, x959003, x959004, x960000, x960001, x960002, x960003, x960004 => if x15 = true then (calc_Equal.j2 k x15 x959000 x959001 x959002 x959003 x959004 x960000 x960001 x960002 x960003 x960004) else (calc_Equal.j2 k (x959000 == x960000) x959000 x959001 x959002 x959003 x959004 x960000 x960001 x960002 x960003 x960004)
def calc_Equal.j2 : Nat → Bool → Int → Int → Int → ByteArray → Int → Int → Int → Int → ByteArray → Int → Option (Int × Int × Int × ByteArray × Int)
 | 0, _, _, _, _, _, _, _, _, _, _, _ => none
 | k + 1, x15, x959000, x959001, x959002, x959003, x959004, x960000, x960001, x960002, x960003, x960004 => if x15 = true then ((logic_Truth.f (x959000 == x960000 && ((x959001 == x960001 && (x959002 == x960002)) && (x959003.toList == x960003.toList && (x959004 == x960004))))).bind fun bt963 => (some (bt963.1, bt963.2.1, bt963.2.2.1, bt963.2.2.2.1, bt963.2.2.2.2))) else (some (0, 0, 0, (⟨#[]⟩ : ByteArray), 0))
end
def calc_Equal.f (k : Nat) (a0_0 a0_1 a0_2 : Int) (a0_3 : ByteArray) (a0_4 a1_0 a1_1 a1_2 : Int) (a1_3 : ByteArray) (a1_4 : Int) : Option (Int × Int × Int × ByteArray × Int) := (value_Sound.f k a0_0 a0_1 a0_2 a0_3 a0_4).bind fun t961 => (if t961 = true then ((value_Sound.f k a1_0 a1_1 a1_2 a1_3 a1_4).bind fun t962 => (calc_Equal.j0 k (!t962) a0_0 a0_1 a0_2 a0_3 a0_4 a1_0 a1_1 a1_2 a1_3 a1_4)) else (calc_Equal.j0 k true a0_0 a0_1 a0_2 a0_3 a0_4 a1_0 a1_1 a1_2 a1_3 a1_4))
set_option maxHeartbeats 8000000 in
set_option maxRecDepth 100000 in
theorem calc_Equal.calls (k : Nat) (a0_0 a0_1 a0_2 : Int) (a0_3 : ByteArray) (a0_4 a1_0 a1_1 a1_2 : Int) (a1_3 : ByteArray) (a1_4 r1 r2 r3 : Int) (r4 : ByteArray) (r5 : Int) (w : World) (hT : Tabs w) (h : calc_Equal.f k a0_0 a0_1 a0_2 a0_3 a0_4 a1_0 a1_1 a1_2 a1_3 a1_4 = some (r1, r2, r3, r4, r5)) :
  Calls Tryz.prog 26 #[.agg #[.int .i64 a0_0, .int .i64 a0_1, .int .i64 a0_2, .string a0_3, .int .i64 a0_4], .agg #[.int .i64 a1_0, .int .i64 a1_1, .int .i64 a1_2, .string a1_3, .int .i64 a1_4]] w fun e w' => e = .returned (.agg #[.int .i64 r1, .int .i64 r2, .int .i64 r3, .string r4, .int .i64 r5]) ∧ Below w.heap.size w w' := by
 have hu25 := Tryz.underlying25
 have HT := am hT; have HZ := am hT.null.pos; obtain ⟨hn0_, hn1_, hn2_, hn3_, hn4_⟩ := hT.null
 clear hT
 have HB := am (Below.refl w.heap.size w)
 have H : ((value_Sound.f k a0_0 a0_1 a0_2 a0_3 a0_4).bind fun t961 => (if t961 = true then ((value_Sound.f k a1_0 a1_1 a1_2 a1_3 a1_4).bind fun t962 => (calc_Equal.j0 k (!t962) a0_0 a0_1 a0_2 a0_3 a0_4 a1_0 a1_1 a1_2 a1_3 a1_4)) else (calc_Equal.j0 k true a0_0 a0_1 a0_2 a0_3 a0_4 a1_0 a1_1 a1_2 a1_3 a1_4))) = some (r1, r2, r3, r4, r5) := h
 clear h
 have HC3 := am H
 clear H
 go_enter Tryz.func26, Tryz.ntmps26
 go_upto_region 1 with (first | ((with_reducible refine gate_dst (N := 2) rfl ?_); refine bev (#[.int .i64 a0_0, .int .i64 a0_1, .int .i64 a0_2, .string a0_3, .int .i64 a0_4]) 25 ?_; intro gb958 hg w4 hbox hb; have BK958 := am (hbox); have GW958 := gs hg HB; have hz958 := ne0 HZ.out GW958.out; have GE958 := GW958; replace HB := sb HB hb; obtain ⟨_, _, _, _, _⟩ := nz HT HB; clear hb hbox hg) | ((with_reducible refine gate_dst (N := 3) rfl ?_); refine bev (#[.int .i64 a1_0, .int .i64 a1_1, .int .i64 a1_2, .string a1_3, .int .i64 a1_4]) 25 ?_; intro gb959 hg w5 hbox hb; have BK959 := am (hbox); have GW959 := gs hg HB; have hz959 := ne0 HZ.out GW959.out; have GE959 := GW959; replace HB := sb HB hb; obtain ⟨_, _, _, _, _⟩ := nz HT HB; have NB958_959 := na hg BK958; have NB959_958 := nb hg BK958; replace BK958 := kb BK958 hb; clear hb hbox hg) | ((with_reducible refine gate_dst (N := 4) rfl ?_); refine bev (#[.int .i64 0, .int .i64 0, .int .i64 0, .string (⟨#[]⟩ : ByteArray), .int .i64 0]) 25 ?_; intro gb960 hg w6 hbox hb; have BK960 := am (hbox); have GW960 := gs hg HB; have hz960 := ne0 HZ.out GW960.out; have GE960 := GW960; replace HB := sb HB hb; obtain ⟨_, _, _, _, _⟩ := nz HT HB; have NB958_960 := na hg BK958; have NB960_958 := nb hg BK958; replace BK958 := kb BK958 hb; have NB959_960 := na hg BK959; have NB960_959 := nb hg BK959; replace BK959 := kb BK959 hb; clear hb hbox hg))
 (try simp only [Act.put, List.setIfInBounds_toArray, List.set_cons_zero, List.set_cons_succ])
 go_cut [5] (fun v5 wc => ∃ (kq : Nat) (x5_2 : Bool), v5 = .bool x5_2 ∧ Aside0 (calc_Equal.j0 kq x5_2 a0_0 a0_1 a0_2 a0_3 a0_4 a1_0 a1_1 a1_2 a1_3 a1_4 = some (r1, r2, r3, r4, r5)) ∧ Aside0 (kq ≤ k) ∧ Aside0 (wc.heap[gb958]? = some (.cells #[.int .i64 a0_0, .int .i64 a0_1, .int .i64 a0_2, .string a0_3, .int .i64 a0_4] 25 (0, 0))) ∧ Aside0 (wc.heap[gb959]? = some (.cells #[.int .i64 a1_0, .int .i64 a1_1, .int .i64 a1_2, .string a1_3, .int .i64 a1_4] 25 (0, 0))) ∧ Aside0 (wc.heap[gb960]? = some (.cells #[.int .i64 0, .int .i64 0, .int .i64 0, .string (⟨#[]⟩ : ByteArray), .int .i64 0] 25 (0, 0))) ∧ Aside0 (Below w.heap.size w wc))
 case first =>
  have H := HC3.out
  clear HC3
  replace H := obe H
  obtain ⟨t961, A7, H⟩ := H
  by_cases c8 : t961 = true
  ·subst c8
   (try simp only [Bool.not_true, Bool.not_false])
   replace H := ift H
   replace H := obe H
   obtain ⟨t962, A9, H⟩ := H
   have H' := am H
   clear H
   have hnb10 := NB958_959.out
   have hnc10 := NB959_958.out
   have hnb11 := NB958_960.out
   have hnc11 := NB960_958.out
   obtain ⟨Z12_0, Z12_1, Z12_2, Z12_3, Z12_4, F12_0, F12_1, F12_2, F12_3, F12_4⟩ := cz5 BK958.out
   go_wp2_with (first | ((with_reducible refine gate_callee (f := 38) rfl ?_); refine gl_ (some 7) Tryz.func38 (by kernel_rfl) #[.agg #[.int .i64 a0_0, .int .i64 a0_1, .int .i64 a0_2, .string a0_3, .int .i64 a0_4]] rfl ?_; (with_reducible refine (value_Sound.calls k a0_0 a0_1 a0_2 a0_3 a0_4 true _ ?side1 A7.out).mono ?_); (case side1 => exact tabs_of HT.out (bz HB.out)); rintro e w13 ⟨rfl, hb⟩; refine ⟨_, rfl, ?_⟩; replace BK958 := kb BK958 hb; replace BK959 := kb BK959 hb; replace BK960 := kb BK960 hb; replace HB := sb HB hb; obtain ⟨_, _, _, _, _⟩ := nz HT HB; clear hb; have hnb14 := NB959_960.out; have hnc14 := NB960_959.out; obtain ⟨Z15_0, Z15_1, Z15_2, Z15_3, Z15_4, F15_0, F15_1, F15_2, F15_3, F15_4⟩ := cz5 BK959.out) | (go_at_call 38; (with_reducible refine (value_Sound.calls k a1_0 a1_1 a1_2 a1_3 a1_4 t962 _ ?side1 A9.out).mono ?_); (case side1 => exact tabs_of HT.out (bz HB.out)); rintro e w16 ⟨rfl, hb⟩; replace BK958 := kb BK958 hb; replace BK959 := kb BK959 hb; replace BK960 := kb BK960 hb; replace HB := sb HB hb; obtain ⟨_, _, _, _, _⟩ := nz HT HB; clear hb))
   go_meet
   case rel => exact ⟨_, (!t962), sz, H', ⟨oz⟩, ⟨bk BK958.out⟩, ⟨bk BK959.out⟩, ⟨bk BK960.out⟩, ⟨bz HB.out⟩⟩
  replace c8 := Bool.eq_false_iff.mpr c8
  subst c8
  (try simp only [Bool.not_true, Bool.not_false])
  replace H := iff_ H
  have H' := am H
  clear H
  have hnb17 := NB958_959.out
  have hnc17 := NB959_958.out
  have hnb18 := NB958_960.out
  have hnc18 := NB960_958.out
  obtain ⟨Z19_0, Z19_1, Z19_2, Z19_3, Z19_4, F19_0, F19_1, F19_2, F19_3, F19_4⟩ := cz5 BK958.out
  go_wp2_with (first | ((with_reducible refine gate_callee (f := 38) rfl ?_); refine gl_ (some 7) Tryz.func38 (by kernel_rfl) #[.agg #[.int .i64 a0_0, .int .i64 a0_1, .int .i64 a0_2, .string a0_3, .int .i64 a0_4]] rfl ?_; (with_reducible refine (value_Sound.calls k a0_0 a0_1 a0_2 a0_3 a0_4 false _ ?side1 A7.out).mono ?_); (case side1 => exact tabs_of HT.out (bz HB.out)); rintro e w20 ⟨rfl, hb⟩; refine ⟨_, rfl, ?_⟩; replace BK958 := kb BK958 hb; replace BK959 := kb BK959 hb; replace BK960 := kb BK960 hb; replace HB := sb HB hb; obtain ⟨_, _, _, _, _⟩ := nz HT HB; clear hb))
  go_meet
  case rel => exact ⟨_, (true), sz, H', ⟨oz⟩, ⟨bk BK958.out⟩, ⟨bk BK959.out⟩, ⟨bk BK960.out⟩, ⟨bz HB.out⟩⟩
 case rest =>
  clear HC3
  skip
  obtain ⟨kq, x5_2, rfl, HA, HJ2, BK958, BK959, BK960, HB⟩ := hcut; obtain ⟨_, _, _, _, _⟩ := nz HT HB
  cases kq with
  | zero => exact absurd HA.out (by simp [calc_Equal.j0])
  | succ kj2 =>
   have H := HA.out
   clear HA
   simp only [calc_Equal.j0] at H
   by_cases c21 : x5_2 = true
   ·subst c21
    (try simp only [Bool.not_true, Bool.not_false])
    replace H := ift H
    simp only [Option.some.injEq, Prod.mk.injEq] at H
    obtain ⟨rfl, rfl, rfl, rfl, rfl⟩ := H
    have hnb22 := NB960_958.out
    have hnc22 := NB958_960.out
    have hnb23 := NB960_959.out
    have hnc23 := NB959_960.out
    obtain ⟨Z24_0, Z24_1, Z24_2, Z24_3, Z24_4, F24_0, F24_1, F24_2, F24_3, F24_4⟩ := cz5 BK960.out
    go_wp2
    refine bodyPost_ret (results_cell_row rfl _ _ gb960 25 #[.int .i64 0, .int .i64 0, .int .i64 0, .string (⟨#[]⟩ : ByteArray), .int .i64 0] (0, 0) _ rfl (bp BK960.out) Tryz.underlying25 rfl (by kernel_rfl)) rfl ?_
    exact ⟨az, bz HB.out⟩
   replace c21 := Bool.eq_false_iff.mpr c21
   subst c21
   (try simp only [Bool.not_true, Bool.not_false])
   replace H := iff_ H
   have HC25 := am H
   clear H
   go_upto_region 3 with (fail)
   go_cut [15] (fun v15 wc => ∃ (kq : Nat) (x15_24 : Bool), v15 = .bool x15_24 ∧ Aside0 (calc_Equal.j1 kq x15_24 a0_0 a0_1 a0_2 a0_3 a0_4 a1_0 a1_1 a1_2 a1_3 a1_4 = some (r1, r2, r3, r4, r5)) ∧ Aside0 (kq ≤ kj2) ∧ Aside0 (wc.heap[gb958]? = some (.cells #[.int .i64 a0_0, .int .i64 a0_1, .int .i64 a0_2, .string a0_3, .int .i64 a0_4] 25 (0, 0))) ∧ Aside0 (wc.heap[gb959]? = some (.cells #[.int .i64 a1_0, .int .i64 a1_1, .int .i64 a1_2, .string a1_3, .int .i64 a1_4] 25 (0, 0))) ∧ Aside0 (wc.heap[gb960]? = some (.cells #[.int .i64 0, .int .i64 0, .int .i64 0, .string (⟨#[]⟩ : ByteArray), .int .i64 0] 25 (0, 0))) ∧ Aside0 (Below w.heap.size w wc))
   case first =>
    have H := HC25.out
    clear HC25
    by_cases c26 : a0_0 = 0
    ·replace H := ipe c26 H
     obtain ⟨H, c26b0, c26b1⟩ := H
     clear c26
     (first | rw [c26b0] | (simp only [i64_w, i32_w]; rw [c26b0]) | skip)
     have H' := am H
     clear H
     have hnb27 := NB958_959.out
     have hnc27 := NB959_958.out
     have hnb28 := NB958_960.out
     have hnc28 := NB960_958.out
     obtain ⟨Z29_0, Z29_1, Z29_2, Z29_3, Z29_4, F29_0, F29_1, F29_2, F29_3, F29_4⟩ := cz5 BK958.out
     go_wp2
     go_meet
     case rel => exact ⟨_, (true), sz, H', ⟨oa HJ2⟩, ⟨bk BK958.out⟩, ⟨bk BK959.out⟩, ⟨bk BK960.out⟩, ⟨bz HB.out⟩⟩
    replace H := ine c26 H
    obtain ⟨H, c26b0, c26b1⟩ := H
    (first | rw [c26b0] | (simp only [i64_w, i32_w]; rw [c26b0]) | skip)
    have H' := am H
    clear H
    have hnb30 := NB958_959.out
    have hnc30 := NB959_958.out
    have hnb31 := NB958_960.out
    have hnc31 := NB960_958.out
    obtain ⟨Z32_0, Z32_1, Z32_2, Z32_3, Z32_4, F32_0, F32_1, F32_2, F32_3, F32_4⟩ := cz5 BK958.out
    have hnb33 := NB959_960.out
    have hnc33 := NB960_959.out
    obtain ⟨Z34_0, Z34_1, Z34_2, Z34_3, Z34_4, F34_0, F34_1, F34_2, F34_3, F34_4⟩ := cz5 BK959.out
    go_wp2
    go_meet
    case rel => exact ⟨_, ((a1_0 == 0)), sz, H', ⟨oa HJ2⟩, ⟨bk BK958.out⟩, ⟨bk BK959.out⟩, ⟨bk BK960.out⟩, ⟨bz HB.out⟩⟩
   case rest =>
    clear HC25
    try clear c8; try clear c21; try clear Z12_0; try clear Z12_1; try clear Z12_2; try clear Z12_3; try clear Z12_4; try clear Z15_0; try clear Z15_1; try clear Z15_2; try clear Z15_3; try clear Z15_4; try clear Z19_0; try clear Z19_1; try clear Z19_2; try clear Z19_3; try clear Z19_4; try clear Z24_0; try clear Z24_1; try clear Z24_2; try clear Z24_3; try clear Z24_4; try clear F12_0; try clear F12_1; try clear F12_2; try clear F12_3; try clear F12_4; try clear F15_0; try clear F15_1; try clear F15_2; try clear F15_3; try clear F15_4; try clear F19_0; try clear F19_1; try clear F19_2; try clear F19_3; try clear F19_4; try clear F24_0; try clear F24_1; try clear F24_2; try clear F24_3; try clear F24_4
    obtain ⟨kq, x15_24, rfl, HA, HJ24, BK958, BK959, BK960, HB⟩ := hcut; obtain ⟨_, _, _, _, _⟩ := nz HT HB
    cases kq with
    | zero => exact absurd HA.out (by simp [calc_Equal.j1])
    | succ kj24 =>
     have H := HA.out
     clear HA
     simp only [calc_Equal.j1] at H
     have HC35 := am H
     clear H
     go_upto_if 15 with (fail)
     go_cut [15] (fun v15 wc => ∃ (kq : Nat) (x15_34 : Bool), v15 = .bool x15_34 ∧ Aside0 (calc_Equal.j2 kq x15_34 a0_0 a0_1 a0_2 a0_3 a0_4 a1_0 a1_1 a1_2 a1_3 a1_4 = some (r1, r2, r3, r4, r5)) ∧ Aside0 (kq ≤ kj24) ∧ Aside0 (wc.heap[gb958]? = some (.cells #[.int .i64 a0_0, .int .i64 a0_1, .int .i64 a0_2, .string a0_3, .int .i64 a0_4] 25 (0, 0))) ∧ Aside0 (wc.heap[gb959]? = some (.cells #[.int .i64 a1_0, .int .i64 a1_1, .int .i64 a1_2, .string a1_3, .int .i64 a1_4] 25 (0, 0))) ∧ Aside0 (wc.heap[gb960]? = some (.cells #[.int .i64 0, .int .i64 0, .int .i64 0, .string (⟨#[]⟩ : ByteArray), .int .i64 0] 25 (0, 0))) ∧ Aside0 (Below w.heap.size w wc))
     case first =>
      have H := HC35.out
      clear HC35
      by_cases c36 : x15_24 = true
      ·subst c36
       (try simp only [Bool.not_true, Bool.not_false])
       replace H := ift H
       have H' := am H
       clear H
       go_wp2
       go_meet
       case rel => exact ⟨_, (true), sz, H', ⟨ob HJ2 HJ24⟩, ⟨bk BK958.out⟩, ⟨bk BK959.out⟩, ⟨bk BK960.out⟩, ⟨bz HB.out⟩⟩
      replace c36 := Bool.eq_false_iff.mpr c36
      subst c36
      (try simp only [Bool.not_true, Bool.not_false])
      replace H := iff_ H
      have H' := am H
      clear H
      have hnb37 := NB958_959.out
      have hnc37 := NB959_958.out
      have hnb38 := NB958_960.out
      have hnc38 := NB960_958.out
      obtain ⟨Z39_0, Z39_1, Z39_2, Z39_3, Z39_4, F39_0, F39_1, F39_2, F39_3, F39_4⟩ := cz5 BK958.out
      have hnb40 := NB959_960.out
      have hnc40 := NB960_959.out
      obtain ⟨Z41_0, Z41_1, Z41_2, Z41_3, Z41_4, F41_0, F41_1, F41_2, F41_3, F41_4⟩ := cz5 BK959.out
      go_wp2
      go_meet
      case rel => exact ⟨_, ((a0_0 == a1_0)), sz, H', ⟨ob HJ2 HJ24⟩, ⟨bk BK958.out⟩, ⟨bk BK959.out⟩, ⟨bk BK960.out⟩, ⟨bz HB.out⟩⟩
     case rest =>
      clear HC35
      try clear c8; try clear c21; try clear c26; try clear c26b0; try clear c26b1; try clear Z12_0; try clear Z12_1; try clear Z12_2; try clear Z12_3; try clear Z12_4; try clear Z15_0; try clear Z15_1; try clear Z15_2; try clear Z15_3; try clear Z15_4; try clear Z19_0; try clear Z19_1; try clear Z19_2; try clear Z19_3; try clear Z19_4; try clear Z24_0; try clear Z24_1; try clear Z24_2; try clear Z24_3; try clear Z24_4; try clear Z29_0; try clear Z29_1; try clear Z29_2; try clear Z29_3; try clear Z29_4; try clear Z32_0; try clear Z32_1; try clear Z32_2; try clear Z32_3; try clear Z32_4; try clear Z34_0; try clear Z34_1; try clear Z34_2; try clear Z34_3; try clear Z34_4; try clear F12_0; try clear F12_1; try clear F12_2; try clear F12_3; try clear F12_4; try clear F15_0; try clear F15_1; try clear F15_2; try clear F15_3; try clear F15_4; try clear F19_0; try clear F19_1; try clear F19_2; try clear F19_3; try clear F19_4; try clear F24_0; try clear F24_1; try clear F24_2; try clear F24_3; try clear F24_4; try clear F29_0; try clear F29_1; try clear F29_2; try clear F29_3; try clear F29_4; try clear F32_0; try clear F32_1; try clear F32_2; try clear F32_3; try clear F32_4; try clear F34_0; try clear F34_1; try clear F34_2; try clear F34_3; try clear F34_4
      obtain ⟨kq, x15_34, rfl, HA, HJ34, BK958, BK959, BK960, HB⟩ := hcut; obtain ⟨_, _, _, _, _⟩ := nz HT HB
      cases kq with
      | zero => exact absurd HA.out (by simp [calc_Equal.j2])
      | succ kj34 =>
       have H := HA.out
       clear HA
       simp only [calc_Equal.j2] at H
       by_cases c42 : x15_34 = true
       ·subst c42
        (try simp only [Bool.not_true, Bool.not_false])
        replace H := ift H
        replace H := obe5 H
        obtain ⟨t963, t964, t965, t966, t967, A43, H⟩ := H
        simp only [Option.some.injEq, Prod.mk.injEq] at H
        obtain ⟨rfl, rfl, rfl, rfl, rfl⟩ := H
        have hnb44 := NB958_959.out
        have hnc44 := NB959_958.out
        have hnb45 := NB958_960.out
        have hnc45 := NB960_958.out
        obtain ⟨Z46_0, Z46_1, Z46_2, Z46_3, Z46_4, F46_0, F46_1, F46_2, F46_3, F46_4⟩ := cz5 BK958.out
        have hnb47 := NB959_960.out
        have hnc47 := NB960_959.out
        obtain ⟨Z48_0, Z48_1, Z48_2, Z48_3, Z48_4, F48_0, F48_1, F48_2, F48_3, F48_4⟩ := cz5 BK959.out
        go_wp2_with (first | ((with_reducible refine gate_callee (f := 59) rfl ?_); refine gl_ (some 32) Tryz.func59 (by kernel_rfl) #[.bool (a0_0 == a1_0 && ((a0_1 == a1_1 && (a0_2 == a1_2)) && (a0_3.toList == a1_3.toList && (a0_4 == a1_4))))] rfl ?_; (with_reducible refine (logic_Truth.calls (a0_0 == a1_0 && ((a0_1 == a1_1 && (a0_2 == a1_2)) && (a0_3.toList == a1_3.toList && (a0_4 == a1_4)))) t963 t964 t965 t966 t967 _ A43.out).mono ?_); rintro e w49 ⟨rfl, hb⟩; refine ⟨_, rfl, ?_⟩; replace BK958 := kb BK958 hb; replace BK959 := kb BK959 hb; replace BK960 := kb BK960 hb; replace HB := sb HB hb; obtain ⟨_, _, _, _, _⟩ := nz HT HB; clear hb; obtain ⟨Z50_0, Z50_1, Z50_2, Z50_3, Z50_4, F50_0, F50_1, F50_2, F50_3, F50_4⟩ := cz5 BK960.out))
        refine bodyPost_ret (results_cell_row rfl _ _ gb960 25 #[.int .i64 t963, .int .i64 t964, .int .i64 t965, .string t966, .int .i64 t967] (0, 0) _ rfl (bp BK960.out) Tryz.underlying25 rfl (by kernel_rfl)) rfl ?_
        exact ⟨az, bz HB.out⟩
       replace c42 := Bool.eq_false_iff.mpr c42
       subst c42
       (try simp only [Bool.not_true, Bool.not_false])
       replace H := iff_ H
       simp only [Option.some.injEq, Prod.mk.injEq] at H
       obtain ⟨rfl, rfl, rfl, rfl, rfl⟩ := H
       have hnb51 := NB960_958.out
       have hnc51 := NB958_960.out
       have hnb52 := NB960_959.out
       have hnc52 := NB959_960.out
       obtain ⟨Z53_0, Z53_1, Z53_2, Z53_3, Z53_4, F53_0, F53_1, F53_2, F53_3, F53_4⟩ := cz5 BK960.out
       go_wp2
       refine bodyPost_ret (results_cell_row rfl _ _ gb960 25 #[.int .i64 0, .int .i64 0, .int .i64 0, .string (⟨#[]⟩ : ByteArray), .int .i64 0] (0, 0) _ rfl (bp BK960.out) Tryz.underlying25 rfl (by kernel_rfl)) rfl ?_
       exact ⟨az, bz HB.out⟩
end Go.Proofs.YtgkemhgihbfmmaaGreatDoor.PA
end
section
namespace Go.Proofs.YtgkemhgihbfmmaaGreatDoor.PA
open Go.RowKit Go.Proofs.YtgkemhgihbfmmaaGreatDoorW.PrintWords Go.Proofs.YtgkemhgihbfmmaaGreatDoorW.PrintLast Go.Proofs.YtgkemhgihbfmmaaGreatDoorW.PrintMore
attribute [local go_sem] max2_int min2_int max_two min_two max_three min_three max_four min_four isSome_set str_gtr
set_option linter.unusedVariables false
set_option linter.unusedSimpArgs false
mutual
def soffitref01_Make.j0 : Nat → Int → Int → Bool → Option (Int × Int × Int)
 | 0, _, _, _ => none
 | k + 1, x0, x1, x19 => if x19 = true then (some (0, 0, 3)) else (soffitref01_Make.l0 k x0 x1)
def soffitref01_Make.l0 : Nat → Int → Int → Option (Int × Int × Int)
 | 0, _, _ => none
 | k + 1, x0, x1 => if x1 > 0 then (if (Int.tmod x0 10) = 0 then (soffitref01_Make.l0 k (wrap64 (Int.tdiv x0 10)) (wrap64 (x1 - 1))) else (some (x0, x1, 0))) else (some (x0, x1, 0))
end
def soffitref01_Make.f (k : Nat) (a0 a1 : Int) : Option (Int × Int × Int) := if a1 < 0 then (soffitref01_Make.j0 k a0 a1 true) else (if a1 > 6 then (soffitref01_Make.j0 k a0 a1 true) else (if a0 > 999999999999 then (soffitref01_Make.j0 k a0 a1 true) else (soffitref01_Make.j0 k a0 a1 (decide (a0 < (-999999999999))))))
set_option maxHeartbeats 8000000 in
set_option maxRecDepth 100000 in
theorem soffitref01_Make.calls (k : Nat) (a0 a1 r1 r2 r3 : Int) (w : World) (h : soffitref01_Make.f k a0 a1 = some (r1, r2, r3)) :
  Calls Tryz.prog 55 #[.int .i64 a0, .int .i64 a1] w fun e w' => e = .returned (.tuple #[.agg #[.int .i64 r1, .int .i64 r2], .int .i64 r3]) ∧ Below w.heap.size w w' := by
 have hu23 := Tryz.underlying23
 have HB := am (Below.refl w.heap.size w)
 have H : (if a1 < 0 then (soffitref01_Make.j0 k a0 a1 true) else (if a1 > 6 then (soffitref01_Make.j0 k a0 a1 true) else (if a0 > 999999999999 then (soffitref01_Make.j0 k a0 a1 true) else (soffitref01_Make.j0 k a0 a1 (decide (a0 < (-999999999999))))))) = some (r1, r2, r3) := h
 clear h
 have HC3 := am H
 clear H
 go_enter Tryz.func55, Tryz.ntmps55
 go_upto_region 1 with (first | ((with_reducible refine gate_dst (N := 4) rfl ?_); refine bev (#[.int .i64 0, .int .i64 0]) 23 ?_; intro gb968 hg w4 hbox hb; have BK968 := am (hbox); have GW968 := gs hg HB; have GE968 := GW968; replace HB := sb HB hb; clear hb hbox hg))
 (try simp only [Act.put, List.setIfInBounds_toArray, List.set_cons_zero, List.set_cons_succ])
 go_cut [19] (fun v19 wc => ∃ (kq : Nat) (x19_2 : Bool), v19 = .bool x19_2 ∧ Aside0 (soffitref01_Make.j0 kq a0 a1 x19_2 = some (r1, r2, r3)) ∧ Aside0 (kq ≤ k) ∧ Aside0 (wc.heap[gb968]? = some (.cells #[.int .i64 0, .int .i64 0] 23 (0, 0))) ∧ Aside0 (Below w.heap.size w wc))
 case first =>
  have H := HC3.out
  clear HC3
  by_cases c5 : a1 < 0
  ·rw [if_pos c5] at H
   have c5b0 : decide (a1 < 0) = true := decide_eq_true c5
   clear c5
   (first | rw [c5b0] | (simp only [i64_w, i32_w]; rw [c5b0]) | skip)
   have H' := am H
   clear H
   go_wp2
   go_meet
   case rel => exact ⟨_, (true), sz, H', ⟨oz⟩, ⟨bk BK968.out⟩, ⟨bz HB.out⟩⟩
  rw [if_neg c5] at H
  have c5b0 : decide (a1 < 0) = false := decide_eq_false c5
  clear c5
  (first | rw [c5b0] | (simp only [i64_w, i32_w]; rw [c5b0]) | skip)
  by_cases c6 : a1 > 6
  ·rw [if_pos c6] at H
   have c6b0 : decide (6 < a1) = true := decide_eq_true c6
   clear c6
   have H' := am H
   clear H
   go_wp2
   go_meet
   case rel => exact ⟨_, (true), sz, H', ⟨oz⟩, ⟨bk BK968.out⟩, ⟨bz HB.out⟩⟩
  rw [if_neg c6] at H
  have c6b0 : decide (6 < a1) = false := decide_eq_false c6
  clear c6
  by_cases c7 : a0 > 999999999999
  ·rw [if_pos c7] at H
   have c7b0 : decide (999999999999 < a0) = true := decide_eq_true c7
   clear c7
   have H' := am H
   clear H
   go_wp2
   go_meet
   case rel => exact ⟨_, (true), sz, H', ⟨oz⟩, ⟨bk BK968.out⟩, ⟨bz HB.out⟩⟩
  rw [if_neg c7] at H
  have c7b0 : decide (999999999999 < a0) = false := decide_eq_false c7
  clear c7
  have H' := am H
  clear H
  go_wp2
  go_meet
  case rel => exact ⟨_, (decide (a0 < (-999999999999))), sz, H', ⟨oz⟩, ⟨bk BK968.out⟩, ⟨bz HB.out⟩⟩
 case rest =>
  clear HC3
  skip
  obtain ⟨kq, x19_2, rfl, HA, HJ2, BK968, HB⟩ := hcut
  cases kq with
  | zero => exact absurd HA.out (by simp [soffitref01_Make.j0])
  | succ kj2 =>
   have H := HA.out
   clear HA
   simp only [soffitref01_Make.j0] at H
   by_cases c8 : x19_2 = true
   ·subst c8
    replace H := ift H
    simp only [Option.some.injEq, Prod.mk.injEq] at H
    obtain ⟨rfl, rfl, rfl⟩ := H
    obtain ⟨Z9_0, Z9_1, F9_0, F9_1⟩ := cz2 BK968.out
    go_wp2
    refine bodyPost_ret (results_ct rfl _ _ gb968 23 #[.int .i64 0, .int .i64 0] (0, 0) _ rfl (bp BK968.out) Tryz.underlying23 rfl (by kernel_rfl)) rfl ?_
    exact ⟨az, bz HB.out⟩
   replace c8 := Bool.eq_false_iff.mpr c8
   subst c8
   replace H := iff_ H
   have H' := am H
   clear H
   go_wp2
   (try simp only [Act.put, List.setIfInBounds_toArray, List.set_cons_succ, List.set_cons_zero])
   go_loopg [0, 1] kj2 (fun kq v0 v1 w' => ∃ (x0_2 x1_2 : Int), v0 = .int .i64 x0_2 ∧ v1 = .int .i64 x1_2 ∧ Aside0 (soffitref01_Make.l0 kq x0_2 x1_2 = some (r1, r2, r3)) ∧ Aside0 (kq ≤ kj2) ∧ Aside0 (w'.heap[gb968]? = some (.cells #[.int .i64 0, .int .i64 0] 23 (0, 0))) ∧ Aside0 (Below w.heap.size w w'))
   case atStart => exact ⟨(a0), (a1), sz, sz, H', ⟨Nat.le_refl _⟩, ⟨bk BK968.out⟩, ⟨bz HB.out⟩⟩
   case round =>
    clear H'
    try clear c5; try clear c5b0; try clear c6; try clear c6b0; try clear c7; try clear c7b0; try clear c8; try clear Z9_0; try clear Z9_1; try clear F9_0; try clear F9_1
    obtain ⟨x0_2, x1_2, rfl, rfl, HA, HK2, BK968, HB⟩ := hrel
    cases gk with
    | zero => exact absurd HA.out (by simp [soffitref01_Make.l0])
    | succ k2 =>
     have H := HA.out
     clear HA
     simp only [soffitref01_Make.l0] at H
     by_cases c10 : x1_2 > 0
     ·rw [if_pos c10] at H
      have c10b0 : decide (0 < x1_2) = true := decide_eq_true c10
      clear c10
      by_cases c11 : (Int.tmod x0_2 10) = 0
      ·replace H := ipe c11 H
       obtain ⟨H, c11b0, c11b1⟩ := H
       clear c11
       have H' := am H
       clear H
       go_wp2
       go_roundg k2
       case measure => have := HJ2.out; have := HK2.out; omega
       case rel => exact ⟨(wrap64 (Int.tdiv x0_2 10)), (wrap64 (x1_2 - 1)), sz, sz, H', ⟨by have := HJ2.out; have := HK2.out; omega⟩, ⟨bk BK968.out⟩, ⟨bz HB.out⟩⟩
      replace H := ine c11 H
      obtain ⟨H, c11b0, c11b1⟩ := H
      simp only [Option.some.injEq, Prod.mk.injEq] at H
      obtain ⟨rfl, rfl, rfl⟩ := H
      obtain ⟨Z12_0, Z12_1, F12_0, F12_1⟩ := cz2 BK968.out
      go_wp2
      refine bodyPost_ret (results_ct rfl _ _ gb968 23 #[.int .i64 x0_2, .int .i64 x1_2] (0, 0) _ rfl (bp BK968.out) Tryz.underlying23 rfl (by kernel_rfl)) rfl ?_
      exact ⟨az, bz HB.out⟩
     rw [if_neg c10] at H
     have c10b0 : decide (0 < x1_2) = false := decide_eq_false c10
     clear c10
     simp only [Option.some.injEq, Prod.mk.injEq] at H
     obtain ⟨rfl, rfl, rfl⟩ := H
     obtain ⟨Z13_0, Z13_1, F13_0, F13_1⟩ := cz2 BK968.out
     go_wp2
     refine bodyPost_ret (results_ct rfl _ _ gb968 23 #[.int .i64 x0_2, .int .i64 x1_2] (0, 0) _ rfl (bp BK968.out) Tryz.underlying23 rfl (by kernel_rfl)) rfl ?_
     exact ⟨az, bz HB.out⟩
end Go.Proofs.YtgkemhgihbfmmaaGreatDoor.PA
end
section
namespace Go.Proofs.YtgkemhgihbfmmaaGreatDoor.PA
open Go.RowKit Go.Proofs.YtgkemhgihbfmmaaGreatDoorW.PrintWords Go.Proofs.YtgkemhgihbfmmaaGreatDoorW.PrintLast Go.Proofs.YtgkemhgihbfmmaaGreatDoorW.PrintMore
attribute [local go_sem] max2_int min2_int max_two min_two max_three min_three max_four min_four isSome_set str_gtr
set_option linter.unusedVariables false
set_option linter.unusedSimpArgs false
def soffitref01_Sound.f (k : Nat) (a0_0 a0_1 : Int) : Option (Bool) := (soffitref01_Make.f k a0_0 a0_1).bind fun bt970 => (if bt970.2.2 = 0 then (if bt970.1 = a0_0 then (some (bt970.2.1 == a0_1)) else (some false)) else (some false))
set_option maxHeartbeats 8000000 in
set_option maxRecDepth 100000 in
theorem soffitref01_Sound.calls (k : Nat) (a0_0 a0_1 : Int) (r : Bool) (w : World) (h : soffitref01_Sound.f k a0_0 a0_1 = some r) :
  Calls Tryz.prog 23 #[.agg #[.int .i64 a0_0, .int .i64 a0_1]] w fun e w' => e = .returned (.bool r) ∧ Below w.heap.size w w' := by
 have hu23 := Tryz.underlying23
 have HB := am (Below.refl w.heap.size w)
 have H : ((soffitref01_Make.f k a0_0 a0_1).bind fun bt970 => (if bt970.2.2 = 0 then (if bt970.1 = a0_0 then (some (bt970.2.1 == a0_1)) else (some false)) else (some false))) = some r := h
 clear h
 replace H := obe3 H
 obtain ⟨t970, t971, t972, A2, H⟩ := H
 have HC3 := am H
 clear H
 go_enter Tryz.func23, Tryz.ntmps23
 go_upto_region 2 with (first | ((with_reducible refine gate_dst (N := 1) rfl ?_); refine bev (#[.int .i64 a0_0, .int .i64 a0_1]) 23 ?_; intro gb969 hg w4 hbox hb; have BK969 := am (hbox); have GW969 := gs hg HB; have GE969 := GW969; replace HB := sb HB hb; clear hb hbox hg; obtain ⟨Z5_0, Z5_1, F5_0, F5_1⟩ := cz2 BK969.out) | ((with_reducible refine gate_callee (f := 55) rfl ?_); refine gl_ (some 10) Tryz.func55 (by kernel_rfl) #[.int .i64 a0_0, .int .i64 a0_1] rfl ?_; (with_reducible refine (soffitref01_Make.calls k a0_0 a0_1 t970 t971 t972 _ A2.out).mono ?_); rintro e w6 ⟨rfl, hb⟩; refine ⟨_, rfl, ?_⟩; replace BK969 := kb BK969 hb; replace HB := sb HB hb; clear hb) | ((with_reducible refine gate_dst (N := 3) rfl ?_); refine bev (#[.int .i64 0, .int .i64 0]) 23 ?_; intro gb973 hg w7 hbox hb; have BK973 := am (hbox); have GW973 := gs hg HB; have GE973 := GW973; replace HB := sb HB hb; have NB969_973 := na hg BK969; have NB973_969 := nb hg BK969; replace BK969 := kb BK969 hb; clear hb hbox hg; have hnb8 := NB973_969.out; have hnc8 := NB969_973.out; obtain ⟨Z9_0, Z9_1, F9_0, F9_1⟩ := cz2 BK973.out))
 (try simp only [Act.put, List.setIfInBounds_toArray, List.set_cons_zero, List.set_cons_succ])
 have H := HC3.out
 clear HC3
 clear Z5_0 Z5_1 F5_0 F5_1 Z9_0 Z9_1 F9_0 F9_1
 by_cases c10 : t972 = 0
 ·replace H := ipe c10 H
  obtain ⟨H, c10b0, c10b1⟩ := H
  clear c10
  (first | rw [c10b0] | (simp only [i64_w, i32_w]; rw [c10b0]) | skip)
  by_cases c11 : t970 = a0_0
  ·replace H := ipe c11 H
   obtain ⟨H, c11b0, c11b1⟩ := H
   clear c11
   obtain rfl := Option.some.inj H
   have hnb12 := NB973_969.out
   have hnc12 := NB969_973.out
   obtain ⟨Z13_0, Z13_1, F13_0, F13_1⟩ := cz2 BK973.out
   obtain ⟨Z14_0, Z14_1, F14_0, F14_1⟩ := cz2 BK969.out
   go_wp2
   go_ret
   exact ⟨az, bz HB.out⟩
  replace H := ine c11 H
  obtain ⟨H, c11b0, c11b1⟩ := H
  obtain rfl := Option.some.inj H
  have hnb15 := NB973_969.out
  have hnc15 := NB969_973.out
  obtain ⟨Z16_0, Z16_1, F16_0, F16_1⟩ := cz2 BK973.out
  obtain ⟨Z17_0, Z17_1, F17_0, F17_1⟩ := cz2 BK969.out
  go_wp2
  go_ret
  exact ⟨az, bz HB.out⟩
 replace H := ine c10 H
 obtain ⟨H, c10b0, c10b1⟩ := H
 (first | rw [c10b0] | (simp only [i64_w, i32_w]; rw [c10b0]) | skip)
 obtain rfl := Option.some.inj H
 go_wp2
 go_ret
 exact ⟨az, bz HB.out⟩
end Go.Proofs.YtgkemhgihbfmmaaGreatDoor.PA
end
section
namespace Go.Proofs.YtgkemhgihbfmmaaGreatDoor.PA
open Go.RowKit Go.Proofs.YtgkemhgihbfmmaaGreatDoorW.PrintWords Go.Proofs.YtgkemhgihbfmmaaGreatDoorW.PrintLast Go.Proofs.YtgkemhgihbfmmaaGreatDoorW.PrintMore
attribute [local go_sem] max2_int min2_int max_two min_two max_three min_three max_four min_four isSome_set str_gtr
set_option linter.unusedVariables false
set_option linter.unusedSimpArgs false
mutual
def soffitref04_good.l0 : Nat → ByteArray → Int → Option (Bool)
 | 0, _, _ => none
 | k + 1, x0, x3 => if x3 < (x0.size : Int) then (if 0 ≤ x3 then (if (wrap64 (bt x0 x3)) < 128 then (soffitref04_good.j3 k x0 x3 1 (wrap64 (bt x0 x3)) 0) else (if (wrap64 (bt x0 x3)) ≥ 192 then (soffitref04_good.j1 k x0 x3 (wrap64 (bt x0 x3)) (decide ((wrap64 (bt x0 x3)) < 224))) else (soffitref04_good.j1 k x0 x3 (wrap64 (bt x0 x3)) false))) else (none)) else (some true)
def soffitref04_good.j3 : Nat → ByteArray → Int → Int → Int → Int → Option (Bool)
 | 0, _, _, _, _, _ => none
 | k + 1, x0, x3, x5, x6, x7 => soffitref04_good.l1 k x0 x3 x5 x6 x7 1
def soffitref04_good.l1 : Nat → ByteArray → Int → Int → Int → Int → Int → Option (Bool)
 | 0, _, _, _, _, _, _ => none
 | k + 1, x0, x3, x5, x6, x7, x8 => if x8 < x5 then (if (wrap64 (x3 + x8)) ≥ (x0.size : Int) then (soffitref04_good.j5 k x0 x3 x5 x6 x7 x8 true) else (if 0 ≤ (wrap64 (x3 + x8)) then (if (wrap64 (x3 + x8)) < (x0.size : Int) then (if (bt x0 (wrap64 (x3 + x8))) < 128 then (soffitref04_good.j5 k x0 x3 x5 x6 x7 x8 true) else (soffitref04_good.j5 k x0 x3 x5 x6 x7 x8 (decide ((bt x0 (wrap64 (x3 + x8))) ≥ 192)))) else (none)) else (none))) else (if x6 < x7 then (soffitref04_good.j6 k x0 x3 x5 true) else (if x6 = 9 then (soffitref04_good.j6 k x0 x3 x5 (!true)) else (if x6 = 10 then (soffitref04_good.j6 k x0 x3 x5 (!true)) else (if x6 = 13 then (soffitref04_good.j6 k x0 x3 x5 (!true)) else (if x6 ≥ 32 then (if x6 ≤ 55295 then (soffitref04_good.j6 k x0 x3 x5 (!true)) else (if x6 ≥ 57344 then (if x6 ≤ 65533 then (soffitref04_good.j6 k x0 x3 x5 (!true)) else (if x6 ≥ 65536 then (soffitref04_good.j6 k x0 x3 x5 (!(decide (x6 ≤ 1114111)))) else (soffitref04_good.j6 k x0 x3 x5 (!false)))) else (if x6 ≥ 65536 then (soffitref04_good.j6 k x0 x3 x5 (!(decide (x6 ≤ 1114111)))) else (soffitref04_good.j6 k x0 x3 x5 (!false))))) else (if x6 ≥ 57344 then (if x6 ≤ 65533 then (soffitref04_good.j6 k x0 x3 x5 (!true)) else (if x6 ≥ 65536 then (soffitref04_good.j6 k x0 x3 x5 (!(decide (x6 ≤ 1114111)))) else (soffitref04_good.j6 k x0 x3 x5 (!false)))) else (if x6 ≥ 65536 then (soffitref04_good.j6 k x0 x3 x5 (!(decide (x6 ≤ 1114111)))) else (soffitref04_good.j6 k x0 x3 x5 (!false)))))))))
def soffitref04_good.j5 : Nat → ByteArray → Int → Int → Int → Int → Int → Bool → Option (Bool)
 | 0, _, _, _, _, _, _, _ => none
 | k + 1, x0, x3, x5, x6, x7, x8, x74 => if x74 = true then (some false) else (if 0 ≤ (wrap64 (x3 + x8)) then (if (wrap64 (x3 + x8)) < (x0.size : Int) then (soffitref04_good.l1 k x0 x3 x5 (wrap64 ((wrap64 ((wrap64 (x6 * 64)) + (wrap64 (bt x0 (wrap64 (x3 + x8)))))) - 128)) x7 (wrap64 (x8 + 1))) else (none)) else (none))
def soffitref04_good.j6 : Nat → ByteArray → Int → Int → Bool → Option (Bool)
 | 0, _, _, _, _ => none
 | k + 1, x0, x3, x5, x124 => if x124 = true then (some false) else (soffitref04_good.l0 k x0 (wrap64 (x3 + x5)))
def soffitref04_good.j1 : Nat → ByteArray → Int → Int → Bool → Option (Bool)
 | 0, _, _, _, _ => none
 | k + 1, x0, x3, x4, x21 => if x21 = true then (soffitref04_good.j3 k x0 x3 2 (wrap64 (x4 - 192)) 128) else (if x4 ≥ 224 then (soffitref04_good.j2 k x0 x3 x4 (decide (x4 < 240))) else (soffitref04_good.j2 k x0 x3 x4 false))
def soffitref04_good.j2 : Nat → ByteArray → Int → Int → Bool → Option (Bool)
 | 0, _, _, _, _ => none
 | k + 1, x0, x3, x4, x30 => if x30 = true then (soffitref04_good.j3 k x0 x3 3 (wrap64 (x4 - 224)) 2048) else (if x4 ≥ 240 then (if x4 < 248 then (soffitref04_good.j3 k x0 x3 4 (wrap64 (x4 - 240)) 65536) else (some false)) else (some false))
end
def soffitref04_good.f (k : Nat) (a0 : ByteArray) : Option (Bool) := soffitref04_good.l0 k a0 0
set_option maxHeartbeats 8000000 in
set_option maxRecDepth 100000 in
theorem soffitref04_good.calls (k : Nat) (a0 : ByteArray) (r : Bool) (w : World) (h : soffitref04_good.f k a0 = some r) :
  Calls Tryz.prog 42 #[.string a0] w fun e w' => e = .returned (.bool r) ∧ Drawn0 w w' := by
 have H : (soffitref04_good.l0 k a0 0) = some r := h
 clear h
 have H' := am H
 clear H
 go_enter Tryz.func42, Tryz.ntmps42
 go_wp2
 (try simp only [Act.put, List.setIfInBounds_toArray, List.set_cons_succ, List.set_cons_zero])
 go_loopg [3] k (fun kq v3 w' => ∃ (x3_1 : Int), v3 = .int .i64 x3_1 ∧ Aside0 (soffitref04_good.l0 kq a0 x3_1 = some r) ∧ Aside0 (kq ≤ k) ∧ Drawn0 w w')
 case atStart => exact ⟨(0), sz, H', ⟨Nat.le_refl _⟩, dz⟩
 case round =>
  clear H'
  obtain ⟨x3_1, rfl, HA, HK1, ⟨m1, rfl⟩⟩ := hrel
  cases gk with
  | zero => exact absurd HA.out (by simp [soffitref04_good.l0])
  | succ k1 =>
   have H := HA.out
   clear HA
   simp only [soffitref04_good.l0] at H
   by_cases c2 : x3_1 < (a0.size : Int)
   ·rw [if_pos c2] at H
    have c2b0 : decide (x3_1 < (a0.size : Int)) = true := decide_eq_true c2
    clear c2
    by_cases c3 : 0 ≤ x3_1
    ·rw [if_pos c3] at H
     have c3b0 : decide (0 ≤ x3_1) = true := decide_eq_true c3
     clear c3
     have HC5 := am H
     clear H
     have p4 : 0 ≤ (x3_1 : Int) := of_decide_eq_true tz
     have q4 : x3_1 < (a0.size : Int) := of_decide_eq_true tz
     have hx4 := bt_at a0 x3_1
     replace p4 := eq_true p4
     replace q4 := eq_true q4
     go_upto_block 2 with (fail)
     go_cut [5, 6, 7] (fun v5 v6 v7 wc => ∃ (kq : Nat) (x5_4 x6_4 x7_4 : Int), v5 = .int .i64 x5_4 ∧ v6 = .int .i64 x6_4 ∧ v7 = .int .i64 x7_4 ∧ Aside0 (soffitref04_good.j3 kq a0 x3_1 x5_4 x6_4 x7_4 = some r) ∧ Aside0 (kq ≤ k1) ∧ Drawn0 w wc)
     case first =>
      have H := HC5.out
      clear HC5
      by_cases c6 : (wrap64 (bt a0 x3_1)) < 128
      ·rw [if_pos c6] at H
       have c6b0 : decide ((wrap64 (bt a0 x3_1)) < 128) = true := decide_eq_true c6
       clear c6
       (first | rw [c6b0] | (simp only [i64_w, i32_w]; rw [c6b0]) | skip)
       have H' := am H
       clear H
       go_wp2
       go_meet
       case rel => exact ⟨_, (1), (wrap64 (bt a0 x3_1)), (0), sz, sz, sz, H', ⟨by have := HK1.out; first | omega | exact Nat.le_refl _⟩, dz⟩
      rw [if_neg c6] at H
      have c6b0 : decide ((wrap64 (bt a0 x3_1)) < 128) = false := decide_eq_false c6
      clear c6
      (first | rw [c6b0] | (simp only [i64_w, i32_w]; rw [c6b0]) | skip)
      have HC7 := am H
      clear H
      go_upto_region 7 with (fail)
      go_cut [21] (fun v21 wc => ∃ (kq : Nat) (x21_6 : Bool), v21 = .bool x21_6 ∧ Aside0 (soffitref04_good.j1 kq a0 x3_1 (wrap64 (bt a0 x3_1)) x21_6 = some r) ∧ Aside0 (kq ≤ k1) ∧ Drawn0 w wc)
      case first =>
       have H := HC7.out
       clear HC7
       by_cases c8 : (wrap64 (bt a0 x3_1)) ≥ 192
       ·rw [if_pos c8] at H
        have c8b0 : decide (192 ≤ (wrap64 (bt a0 x3_1))) = true := decide_eq_true c8
        clear c8
        (first | rw [c8b0] | (simp only [i64_w, i32_w]; rw [c8b0]) | skip)
        have H' := am H
        clear H
        go_wp2
        go_meet
        case rel => exact ⟨_, (decide ((wrap64 (bt a0 x3_1)) < 224)), sz, H', ⟨by have := HK1.out; first | omega | exact Nat.le_refl _⟩, dz⟩
       rw [if_neg c8] at H
       have c8b0 : decide (192 ≤ (wrap64 (bt a0 x3_1))) = false := decide_eq_false c8
       clear c8
       (first | rw [c8b0] | (simp only [i64_w, i32_w]; rw [c8b0]) | skip)
       have H' := am H
       clear H
       go_wp2
       go_meet
       case rel => exact ⟨_, (false), sz, H', ⟨by have := HK1.out; first | omega | exact Nat.le_refl _⟩, dz⟩
      case rest =>
       clear HC7
       try clear c2; try clear c2b0; try clear c3; try clear c3b0; try clear p4; try clear q4; try clear hx4; try clear c6; try clear c6b0; try clear p4; try clear q4
       obtain ⟨kq, x21_6, rfl, HA, HJ6, ⟨mc6, rfl⟩⟩ := hcut
       cases kq with
       | zero => exact absurd HA.out (by simp [soffitref04_good.j1])
       | succ kj6 =>
        have H := HA.out
        clear HA
        simp only [soffitref04_good.j1] at H
        by_cases c9 : x21_6 = true
        ·subst c9
         replace H := ift H
         have H' := am H
         clear H
         go_wp2
         go_meet
         case rel => exact ⟨_, (2), (wrap64 ((wrap64 (bt a0 x3_1)) - 192)), (128), sz, sz, sz, H', ⟨by have := HK1.out; have := HJ6.out; first | omega | exact Nat.le_refl _⟩, dz⟩
        replace c9 := Bool.eq_false_iff.mpr c9
        subst c9
        replace H := iff_ H
        have HC10 := am H
        clear H
        go_upto_region 9 with (fail)
        go_cut [30] (fun v30 wc => ∃ (kq : Nat) (x30_9 : Bool), v30 = .bool x30_9 ∧ Aside0 (soffitref04_good.j2 kq a0 x3_1 (wrap64 (bt a0 x3_1)) x30_9 = some r) ∧ Aside0 (kq ≤ kj6) ∧ Drawn0 w wc)
        case first =>
         have H := HC10.out
         clear HC10
         by_cases c11 : (wrap64 (bt a0 x3_1)) ≥ 224
         ·rw [if_pos c11] at H
          have c11b0 : decide (224 ≤ (wrap64 (bt a0 x3_1))) = true := decide_eq_true c11
          clear c11
          (first | rw [c11b0] | (simp only [i64_w, i32_w]; rw [c11b0]) | skip)
          have H' := am H
          clear H
          go_wp2
          go_meet
          case rel => exact ⟨_, (decide ((wrap64 (bt a0 x3_1)) < 240)), sz, H', ⟨by have := HK1.out; have := HJ6.out; first | omega | exact Nat.le_refl _⟩, dz⟩
         rw [if_neg c11] at H
         have c11b0 : decide (224 ≤ (wrap64 (bt a0 x3_1))) = false := decide_eq_false c11
         clear c11
         (first | rw [c11b0] | (simp only [i64_w, i32_w]; rw [c11b0]) | skip)
         have H' := am H
         clear H
         go_wp2
         go_meet
         case rel => exact ⟨_, (false), sz, H', ⟨by have := HK1.out; have := HJ6.out; first | omega | exact Nat.le_refl _⟩, dz⟩
        case rest =>
         clear HC10
         try clear c2; try clear c2b0; try clear c3; try clear c3b0; try clear p4; try clear q4; try clear hx4; try clear c6; try clear c6b0; try clear c8; try clear c8b0; try clear c9; try clear p4; try clear q4
         obtain ⟨kq, x30_9, rfl, HA, HJ9, ⟨mc9, rfl⟩⟩ := hcut
         cases kq with
         | zero => exact absurd HA.out (by simp [soffitref04_good.j2])
         | succ kj9 =>
          have H := HA.out
          clear HA
          simp only [soffitref04_good.j2] at H
          by_cases c12 : x30_9 = true
          ·subst c12
           replace H := ift H
           have H' := am H
           clear H
           go_wp2
           go_meet
           case rel => exact ⟨_, (3), (wrap64 ((wrap64 (bt a0 x3_1)) - 224)), (2048), sz, sz, sz, H', ⟨by have := HK1.out; have := HJ6.out; have := HJ9.out; first | omega | exact Nat.le_refl _⟩, dz⟩
          replace c12 := Bool.eq_false_iff.mpr c12
          subst c12
          replace H := iff_ H
          by_cases c13 : (wrap64 (bt a0 x3_1)) ≥ 240
          ·rw [if_pos c13] at H
           have c13b0 : decide (240 ≤ (wrap64 (bt a0 x3_1))) = true := decide_eq_true c13
           clear c13
           by_cases c14 : (wrap64 (bt a0 x3_1)) < 248
           ·rw [if_pos c14] at H
            have c14b0 : decide ((wrap64 (bt a0 x3_1)) < 248) = true := decide_eq_true c14
            clear c14
            have H' := am H
            clear H
            go_wp2
            go_meet
            case rel => exact ⟨_, (4), (wrap64 ((wrap64 (bt a0 x3_1)) - 240)), (65536), sz, sz, sz, H', ⟨by have := HK1.out; have := HJ6.out; have := HJ9.out; first | omega | exact Nat.le_refl _⟩, dz⟩
           rw [if_neg c14] at H
           have c14b0 : decide ((wrap64 (bt a0 x3_1)) < 248) = false := decide_eq_false c14
           clear c14
           obtain rfl := Option.some.inj H
           go_wp2
           go_ret
           exact ⟨sz, dz⟩
          rw [if_neg c13] at H
          have c13b0 : decide (240 ≤ (wrap64 (bt a0 x3_1))) = false := decide_eq_false c13
          clear c13
          obtain rfl := Option.some.inj H
          go_wp2
          go_ret
          exact ⟨sz, dz⟩
     case rest =>
      clear HC5
      try clear c2; try clear c2b0; try clear c3; try clear c3b0; try clear p4; try clear q4; try clear hx4; try clear p4; try clear q4
      obtain ⟨kq, x5_4, x6_4, x7_4, rfl, rfl, rfl, HA, HJ4, ⟨mc4, rfl⟩⟩ := hcut
      cases kq with
      | zero => exact absurd HA.out (by simp [soffitref04_good.j3])
      | succ kj4 =>
       have H := HA.out
       clear HA
       simp only [soffitref04_good.j3] at H
       have H' := am H
       clear H
       go_wp2
       (try simp only [Act.put, List.setIfInBounds_toArray, List.set_cons_succ, List.set_cons_zero])
       go_loopg [6, 8] kj4 (fun kq v6 v8 w' => ∃ (x6_3 x8_3 : Int), v6 = .int .i64 x6_3 ∧ v8 = .int .i64 x8_3 ∧ Aside0 (soffitref04_good.l1 kq a0 x3_1 x5_4 x6_3 x7_4 x8_3 = some r) ∧ Aside0 (kq ≤ kj4) ∧ Drawn0 w w')
       case atStart => exact ⟨(x6_4), (1), sz, sz, H', ⟨Nat.le_refl _⟩, dz⟩
       case round =>
        clear H'
        try clear c2; try clear c2b0; try clear c3; try clear c3b0; try clear p4; try clear q4; try clear hx4; try clear c6; try clear c6b0; try clear c8; try clear c8b0; try clear c9; try clear c11; try clear c11b0; try clear c12; try clear c13; try clear c13b0; try clear c14; try clear c14b0; try clear p4; try clear q4
        obtain ⟨x6_3, x8_3, rfl, rfl, HA, HK3, ⟨m3, rfl⟩⟩ := hrel
        cases gk with
        | zero => exact absurd HA.out (by simp [soffitref04_good.l1])
        | succ k3 =>
         have H := HA.out
         clear HA
         simp only [soffitref04_good.l1] at H
         by_cases c15 : x8_3 < x5_4
         ·rw [if_pos c15] at H
          have c15b0 : decide (x8_3 < x5_4) = true := decide_eq_true c15
          clear c15
          have HC16 := am H
          clear H
          go_upto_region 16 with (fail)
          go_cut [74] (fun v74 wc => ∃ (kq : Nat) (x74_15 : Bool), v74 = .bool x74_15 ∧ Aside0 (soffitref04_good.j5 kq a0 x3_1 x5_4 x6_3 x7_4 x8_3 x74_15 = some r) ∧ Aside0 (kq ≤ k3) ∧ Drawn0 w wc)
          case first =>
           have H := HC16.out
           clear HC16
           by_cases c17 : (wrap64 (x3_1 + x8_3)) ≥ (a0.size : Int)
           ·rw [if_pos c17] at H
            have c17b0 : decide ((a0.size : Int) ≤ (wrap64 (x3_1 + x8_3))) = true := decide_eq_true c17
            clear c17
            (first | rw [c17b0] | (simp only [i64_w, i32_w]; rw [c17b0]) | skip)
            have H' := am H
            clear H
            go_wp2
            go_meet
            case rel => exact ⟨_, (true), sz, H', ⟨by have := HK1.out; have := HJ4.out; have := HK3.out; first | omega | exact Nat.le_refl _⟩, dz⟩
           rw [if_neg c17] at H
           have c17b0 : decide ((a0.size : Int) ≤ (wrap64 (x3_1 + x8_3))) = false := decide_eq_false c17
           clear c17
           (first | rw [c17b0] | (simp only [i64_w, i32_w]; rw [c17b0]) | skip)
           obtain ⟨ji18, hji18⟩ : ∃ j_ : Int, (wrap64 (x3_1 + x8_3)) = j_ := ⟨_, rfl⟩
           replace H : (if 0 ≤ (ji18) then (if (ji18) < (a0.size : Int) then (if (bt a0 (ji18)) < 128 then (soffitref04_good.j5 k3 a0 x3_1 x5_4 x6_3 x7_4 x8_3 true) else (soffitref04_good.j5 k3 a0 x3_1 x5_4 x6_3 x7_4 x8_3 (decide ((bt a0 (ji18)) ≥ 192)))) else (none)) else (none)) = some r := by first | (rw [hji18] at H; exact H) | (simp only [hji18] at H ⊢; exact H)
           (try rw [hji18] at c17b0)
           have hji18w : (IntKind.i64.wrap (x3_1 + x8_3)) = ji18 := (i64_w _).trans hji18
           by_cases c19 : 0 ≤ (ji18)
           ·rw [if_pos c19] at H
            have c19b0 : decide (0 ≤ (ji18)) = true := decide_eq_true c19
            clear c19
            by_cases c20 : (ji18) < (a0.size : Int)
            ·rw [if_pos c20] at H
             have c20b0 : decide ((ji18) < (a0.size : Int)) = true := decide_eq_true c20
             clear c20
             by_cases c22 : (bt a0 (ji18)) < 128
             ·rw [if_pos c22] at H
              have c22b0 : decide ((bt a0 (ji18)) < 128) = true := decide_eq_true c22
              clear c22
              have H' := am H
              clear H
              have p21 : 0 ≤ ((ji18) : Int) := of_decide_eq_true tz
              have q21 : (ji18) < (a0.size : Int) := of_decide_eq_true tz
              have hx21 := bt_at a0 (ji18)
              replace p21 := eq_true p21
              replace q21 := eq_true q21
              go_wp2
              go_meet
              case rel => exact ⟨_, (true), sz, H', ⟨by have := HK1.out; have := HJ4.out; have := HK3.out; first | omega | exact Nat.le_refl _⟩, dz⟩
             rw [if_neg c22] at H
             have c22b0 : decide ((bt a0 (ji18)) < 128) = false := decide_eq_false c22
             clear c22
             have H' := am H
             clear H
             have p21 : 0 ≤ ((ji18) : Int) := of_decide_eq_true tz
             have q21 : (ji18) < (a0.size : Int) := of_decide_eq_true tz
             have hx21 := bt_at a0 (ji18)
             replace p21 := eq_true p21
             replace q21 := eq_true q21
             have p23 : 0 ≤ ((ji18) : Int) := of_decide_eq_true tz
             have q23 : (ji18) < (a0.size : Int) := of_decide_eq_true tz
             have hx23 := bt_at a0 (ji18)
             replace p23 := eq_true p23
             replace q23 := eq_true q23
             go_wp2
             go_meet
             case rel => exact ⟨_, (decide ((bt a0 (ji18)) ≥ 192)), (by first | rfl | (simp; done) | (simp only [← hji18] <;> (first | rfl | simp)) | (simp [*]; done)), H', ⟨by have := HK1.out; have := HJ4.out; have := HK3.out; first | omega | exact Nat.le_refl _⟩, dz⟩
            rw [if_neg c20] at H
            exact absurd H (by simp)
           rw [if_neg c19] at H
           exact absurd H (by simp)
          case rest =>
           clear HC16
           try clear c2; try clear c2b0; try clear c3; try clear c3b0; try clear p4; try clear q4; try clear hx4; try clear c6; try clear c6b0; try clear c8; try clear c8b0; try clear c9; try clear c11; try clear c11b0; try clear c12; try clear c13; try clear c13b0; try clear c14; try clear c14b0; try clear c15; try clear c15b0; try clear p4; try clear q4
           obtain ⟨kq, x74_15, rfl, HA, HJ15, ⟨mc15, rfl⟩⟩ := hcut
           cases kq with
           | zero => exact absurd HA.out (by simp [soffitref04_good.j5])
           | succ kj15 =>
            have H := HA.out
            clear HA
            simp only [soffitref04_good.j5] at H
            by_cases c24 : x74_15 = true
            ·subst c24
             replace H := ift H
             obtain rfl := Option.some.inj H
             go_wp2
             go_ret
             exact ⟨sz, dz⟩
            replace c24 := Bool.eq_false_iff.mpr c24
            subst c24
            replace H := iff_ H
            obtain ⟨ji25, hji25⟩ : ∃ j_ : Int, (wrap64 (x3_1 + x8_3)) = j_ := ⟨_, rfl⟩
            replace H : (if 0 ≤ (ji25) then (if (ji25) < (a0.size : Int) then (soffitref04_good.l1 kj15 a0 x3_1 x5_4 (wrap64 ((wrap64 ((wrap64 (x6_3 * 64)) + (wrap64 (bt a0 (ji25))))) - 128)) x7_4 (wrap64 (x8_3 + 1))) else (none)) else (none)) = some r := by first | (rw [hji25] at H; exact H) | (simp only [hji25] at H ⊢; exact H)
            have hji25w : (IntKind.i64.wrap (x3_1 + x8_3)) = ji25 := (i64_w _).trans hji25
            by_cases c26 : 0 ≤ (ji25)
            ·rw [if_pos c26] at H
             have c26b0 : decide (0 ≤ (ji25)) = true := decide_eq_true c26
             clear c26
             by_cases c27 : (ji25) < (a0.size : Int)
             ·rw [if_pos c27] at H
              have c27b0 : decide ((ji25) < (a0.size : Int)) = true := decide_eq_true c27
              clear c27
              have H' := am H
              clear H
              have p28 : 0 ≤ ((ji25) : Int) := of_decide_eq_true tz
              have q28 : (ji25) < (a0.size : Int) := of_decide_eq_true tz
              have hx28 := bt_at a0 (ji25)
              replace p28 := eq_true p28
              replace q28 := eq_true q28
              go_wp2
              go_roundg kj15
              case measure => have := HK1.out; have := HJ4.out; have := HK3.out; have := HJ15.out; omega
              case rel => exact ⟨(wrap64 ((wrap64 ((wrap64 (x6_3 * 64)) + (wrap64 (bt a0 (ji25))))) - 128)), (wrap64 (x8_3 + 1)), (by first | rfl | (simp; done) | (simp only [← hji25] <;> (first | rfl | simp)) | (simp [*]; done)), sz, H', ⟨by have := HK1.out; have := HJ4.out; have := HK3.out; have := HJ15.out; omega⟩, dz⟩
             rw [if_neg c27] at H
             exact absurd H (by simp)
            rw [if_neg c26] at H
            exact absurd H (by simp)
         rw [if_neg c15] at H
         have c15b0 : decide (x8_3 < x5_4) = false := decide_eq_false c15
         clear c15
         have HC29 := am H
         clear H
         go_upto_region 19 with (fail)
         go_cut [124] (fun v124 wc => ∃ (kq : Nat) (x124_28 : Bool), v124 = .bool x124_28 ∧ Aside0 (soffitref04_good.j6 kq a0 x3_1 x5_4 x124_28 = some r) ∧ Aside0 (kq ≤ k3) ∧ Drawn0 w wc)
         case first =>
          have H := HC29.out
          clear HC29
          by_cases c30 : x6_3 < x7_4
          ·rw [if_pos c30] at H
           have c30b0 : decide (x6_3 < x7_4) = true := decide_eq_true c30
           clear c30
           (first | rw [c30b0] | (simp only [i64_w, i32_w]; rw [c30b0]) | skip)
           have H' := am H
           clear H
           go_wp2
           go_meet
           case rel => exact ⟨_, (true), sz, H', ⟨by have := HK1.out; have := HJ4.out; have := HK3.out; first | omega | exact Nat.le_refl _⟩, dz⟩
          rw [if_neg c30] at H
          have c30b0 : decide (x6_3 < x7_4) = false := decide_eq_false c30
          clear c30
          (first | rw [c30b0] | (simp only [i64_w, i32_w]; rw [c30b0]) | skip)
          by_cases c31 : x6_3 = 9
          ·replace H := ipe c31 H
           obtain ⟨H, c31b0, c31b1⟩ := H
           clear c31
           have H' := am H
           clear H
           go_wp2
           go_meet
           case rel => exact ⟨_, (!true), sz, H', ⟨by have := HK1.out; have := HJ4.out; have := HK3.out; first | omega | exact Nat.le_refl _⟩, dz⟩
          replace H := ine c31 H
          obtain ⟨H, c31b0, c31b1⟩ := H
          by_cases c32 : x6_3 = 10
          ·replace H := ipe c32 H
           obtain ⟨H, c32b0, c32b1⟩ := H
           clear c32
           have H' := am H
           clear H
           go_wp2
           go_meet
           case rel => exact ⟨_, (!true), sz, H', ⟨by have := HK1.out; have := HJ4.out; have := HK3.out; first | omega | exact Nat.le_refl _⟩, dz⟩
          replace H := ine c32 H
          obtain ⟨H, c32b0, c32b1⟩ := H
          by_cases c33 : x6_3 = 13
          ·replace H := ipe c33 H
           obtain ⟨H, c33b0, c33b1⟩ := H
           clear c33
           have H' := am H
           clear H
           go_wp2
           go_meet
           case rel => exact ⟨_, (!true), sz, H', ⟨by have := HK1.out; have := HJ4.out; have := HK3.out; first | omega | exact Nat.le_refl _⟩, dz⟩
          replace H := ine c33 H
          obtain ⟨H, c33b0, c33b1⟩ := H
          by_cases c34 : x6_3 ≥ 32
          ·rw [if_pos c34] at H
           have c34b0 : decide (32 ≤ x6_3) = true := decide_eq_true c34
           clear c34
           by_cases c35 : x6_3 ≤ 55295
           ·rw [if_pos c35] at H
            have c35b0 : decide (x6_3 ≤ 55295) = true := decide_eq_true c35
            clear c35
            have H' := am H
            clear H
            go_wp2
            go_meet
            case rel => exact ⟨_, (!true), sz, H', ⟨by have := HK1.out; have := HJ4.out; have := HK3.out; first | omega | exact Nat.le_refl _⟩, dz⟩
           rw [if_neg c35] at H
           have c35b0 : decide (x6_3 ≤ 55295) = false := decide_eq_false c35
           clear c35
           by_cases c36 : x6_3 ≥ 57344
           ·rw [if_pos c36] at H
            have c36b0 : decide (57344 ≤ x6_3) = true := decide_eq_true c36
            clear c36
            by_cases c37 : x6_3 ≤ 65533
            ·rw [if_pos c37] at H
             have c37b0 : decide (x6_3 ≤ 65533) = true := decide_eq_true c37
             clear c37
             have H' := am H
             clear H
             go_wp2
             go_meet
             case rel => exact ⟨_, (!true), sz, H', ⟨by have := HK1.out; have := HJ4.out; have := HK3.out; first | omega | exact Nat.le_refl _⟩, dz⟩
            rw [if_neg c37] at H
            have c37b0 : decide (x6_3 ≤ 65533) = false := decide_eq_false c37
            clear c37
            by_cases c38 : x6_3 ≥ 65536
            ·rw [if_pos c38] at H
             have c38b0 : decide (65536 ≤ x6_3) = true := decide_eq_true c38
             clear c38
             have H' := am H
             clear H
             go_wp2
             go_meet
             case rel => exact ⟨_, (!(decide (x6_3 ≤ 1114111))), sz, H', ⟨by have := HK1.out; have := HJ4.out; have := HK3.out; first | omega | exact Nat.le_refl _⟩, dz⟩
            rw [if_neg c38] at H
            have c38b0 : decide (65536 ≤ x6_3) = false := decide_eq_false c38
            clear c38
            have H' := am H
            clear H
            go_wp2
            go_meet
            case rel => exact ⟨_, (!false), sz, H', ⟨by have := HK1.out; have := HJ4.out; have := HK3.out; first | omega | exact Nat.le_refl _⟩, dz⟩
           rw [if_neg c36] at H
           have c36b0 : decide (57344 ≤ x6_3) = false := decide_eq_false c36
           clear c36
           by_cases c39 : x6_3 ≥ 65536
           ·rw [if_pos c39] at H
            have c39b0 : decide (65536 ≤ x6_3) = true := decide_eq_true c39
            clear c39
            have H' := am H
            clear H
            go_wp2
            go_meet
            case rel => exact ⟨_, (!(decide (x6_3 ≤ 1114111))), sz, H', ⟨by have := HK1.out; have := HJ4.out; have := HK3.out; first | omega | exact Nat.le_refl _⟩, dz⟩
           rw [if_neg c39] at H
           have c39b0 : decide (65536 ≤ x6_3) = false := decide_eq_false c39
           clear c39
           have H' := am H
           clear H
           go_wp2
           go_meet
           case rel => exact ⟨_, (!false), sz, H', ⟨by have := HK1.out; have := HJ4.out; have := HK3.out; first | omega | exact Nat.le_refl _⟩, dz⟩
          rw [if_neg c34] at H
          have c34b0 : decide (32 ≤ x6_3) = false := decide_eq_false c34
          clear c34
          by_cases c40 : x6_3 ≥ 57344
          ·rw [if_pos c40] at H
           have c40b0 : decide (57344 ≤ x6_3) = true := decide_eq_true c40
           clear c40
           by_cases c41 : x6_3 ≤ 65533
           ·rw [if_pos c41] at H
            have c41b0 : decide (x6_3 ≤ 65533) = true := decide_eq_true c41
            clear c41
            have H' := am H
            clear H
            go_wp2
            go_meet
            case rel => exact ⟨_, (!true), sz, H', ⟨by have := HK1.out; have := HJ4.out; have := HK3.out; first | omega | exact Nat.le_refl _⟩, dz⟩
           rw [if_neg c41] at H
           have c41b0 : decide (x6_3 ≤ 65533) = false := decide_eq_false c41
           clear c41
           by_cases c42 : x6_3 ≥ 65536
           ·rw [if_pos c42] at H
            have c42b0 : decide (65536 ≤ x6_3) = true := decide_eq_true c42
            clear c42
            have H' := am H
            clear H
            go_wp2
            go_meet
            case rel => exact ⟨_, (!(decide (x6_3 ≤ 1114111))), sz, H', ⟨by have := HK1.out; have := HJ4.out; have := HK3.out; first | omega | exact Nat.le_refl _⟩, dz⟩
           rw [if_neg c42] at H
           have c42b0 : decide (65536 ≤ x6_3) = false := decide_eq_false c42
           clear c42
           have H' := am H
           clear H
           go_wp2
           go_meet
           case rel => exact ⟨_, (!false), sz, H', ⟨by have := HK1.out; have := HJ4.out; have := HK3.out; first | omega | exact Nat.le_refl _⟩, dz⟩
          rw [if_neg c40] at H
          have c40b0 : decide (57344 ≤ x6_3) = false := decide_eq_false c40
          clear c40
          by_cases c43 : x6_3 ≥ 65536
          ·rw [if_pos c43] at H
           have c43b0 : decide (65536 ≤ x6_3) = true := decide_eq_true c43
           clear c43
           have H' := am H
           clear H
           go_wp2
           go_meet
           case rel => exact ⟨_, (!(decide (x6_3 ≤ 1114111))), sz, H', ⟨by have := HK1.out; have := HJ4.out; have := HK3.out; first | omega | exact Nat.le_refl _⟩, dz⟩
          rw [if_neg c43] at H
          have c43b0 : decide (65536 ≤ x6_3) = false := decide_eq_false c43
          clear c43
          have H' := am H
          clear H
          go_wp2
          go_meet
          case rel => exact ⟨_, (!false), sz, H', ⟨by have := HK1.out; have := HJ4.out; have := HK3.out; first | omega | exact Nat.le_refl _⟩, dz⟩
         case rest =>
          clear HC29
          try clear c2; try clear c2b0; try clear c3; try clear c3b0; try clear p4; try clear q4; try clear hx4; try clear c6; try clear c6b0; try clear c8; try clear c8b0; try clear c9; try clear c11; try clear c11b0; try clear c12; try clear c13; try clear c13b0; try clear c14; try clear c14b0; try clear c15; try clear c15b0; try clear c17; try clear c17b0; try clear c19; try clear c19b0; try clear c20; try clear c20b0; try clear p21; try clear q21; try clear hx21; try clear c22; try clear c22b0; try clear p23; try clear q23; try clear hx23; try clear c24; try clear c26; try clear c26b0; try clear c27; try clear c27b0; try clear p28; try clear q28; try clear hx28; try clear p21; try clear p23; try clear p28; try clear p4; try clear q21; try clear q23; try clear q28; try clear q4
          obtain ⟨kq, x124_28, rfl, HA, HJ28, ⟨mc28, rfl⟩⟩ := hcut
          cases kq with
          | zero => exact absurd HA.out (by simp [soffitref04_good.j6])
          | succ kj28 =>
           have H := HA.out
           clear HA
           simp only [soffitref04_good.j6] at H
           by_cases c44 : x124_28 = true
           ·subst c44
            replace H := ift H
            obtain rfl := Option.some.inj H
            go_wp2
            go_ret
            exact ⟨sz, dz⟩
           replace c44 := Bool.eq_false_iff.mpr c44
           subst c44
           replace H := iff_ H
           have H' := am H
           clear H
           go_wp2
           go_roundg kj28
           case measure => have := HK1.out; have := HJ4.out; have := HK3.out; have := HJ28.out; omega
           case rel => exact ⟨(wrap64 (x3_1 + x5_4)), sz, H', ⟨by have := HK1.out; have := HJ4.out; have := HK3.out; have := HJ28.out; omega⟩, dz⟩
    rw [if_neg c3] at H
    exact absurd H (by simp)
   rw [if_neg c2] at H
   have c2b0 : decide (x3_1 < (a0.size : Int)) = false := decide_eq_false c2
   clear c2
   obtain rfl := Option.some.inj H
   go_wp2
   go_ret
   exact ⟨sz, dz⟩
end Go.Proofs.YtgkemhgihbfmmaaGreatDoor.PA
end
section
namespace Go.Proofs.YtgkemhgihbfmmaaGreatDoor.PA
open Go.RowKit Go.Proofs.YtgkemhgihbfmmaaGreatDoorW.PrintWords Go.Proofs.YtgkemhgihbfmmaaGreatDoorW.PrintLast Go.Proofs.YtgkemhgihbfmmaaGreatDoorW.PrintMore
attribute [local go_sem] max2_int min2_int max_two min_two max_three min_three max_four min_four isSome_set str_gtr
set_option linter.unusedVariables false
set_option linter.unusedSimpArgs false
def soffitref04_Sound.j0 : Nat → Bool → Int → Int → Int → ByteArray → Int → Option (Bool)
 | 0, _, _, _, _, _, _ => none
 | k + 1, x3, x975000, x975001, x975002, x975003, x975004 => if x975000 = 0 then (if x3 = true then (if x975003.toList = ([] : List UInt8) then (some (x975004 == 0)) else (some false)) else (some false)) else (if x975000 = 1 then ((soffitref01_Sound.f k x975001 x975002).bind fun t975 => (if t975 = true then (if x975003.toList = ([] : List UInt8) then (some (x975004 == 0)) else (some false)) else (some false))) else (if x975000 = 2 then (if x3 = true then (if x975004 = 0 then (if (x975003.size : Int) ≤ 256 then ((soffitref04_good.f k x975003).bind fun t976 => (some t976)) else (some false)) else (some false)) else (some false)) else (if x975000 = 3 then (if x3 = true then (if x975003.toList = ([] : List UInt8) then (if x975004 = 0 then (some true) else (some (x975004 == 1))) else (some false)) else (some false)) else (if x975000 = 4 then (if x3 = true then (if x975003.toList = ([] : List UInt8) then (if x975004 ≥ 0 then (some (decide (x975004 ≤ 3652058))) else (some false)) else (some false)) else (some false)) else (some false)))))
def soffitref04_Sound.f (k : Nat) (a0_0 a0_1 a0_2 : Int) (a0_3 : ByteArray) (a0_4 : Int) : Option (Bool) := if a0_1 = 0 then (soffitref04_Sound.j0 k (a0_2 == 0) a0_0 a0_1 a0_2 a0_3 a0_4) else (soffitref04_Sound.j0 k false a0_0 a0_1 a0_2 a0_3 a0_4)
set_option maxHeartbeats 8000000 in
set_option maxRecDepth 100000 in
theorem soffitref04_Sound.calls (k : Nat) (a0_0 a0_1 a0_2 : Int) (a0_3 : ByteArray) (a0_4 : Int) (r : Bool) (w : World) (h : soffitref04_Sound.f k a0_0 a0_1 a0_2 a0_3 a0_4 = some r) :
  Calls Tryz.prog 15 #[.agg #[.int .i64 a0_0, .int .i64 a0_1, .int .i64 a0_2, .string a0_3, .int .i64 a0_4]] w fun e w' => e = .returned (.bool r) ∧ Below w.heap.size w w' := by
 have hu25 := Tryz.underlying25
 have hu23 := Tryz.underlying23
 have HB := am (Below.refl w.heap.size w)
 have H : (if a0_1 = 0 then (soffitref04_Sound.j0 k (a0_2 == 0) a0_0 a0_1 a0_2 a0_3 a0_4) else (soffitref04_Sound.j0 k false a0_0 a0_1 a0_2 a0_3 a0_4)) = some r := h
 clear h
 have HC2 := am H
 clear H
 go_enter Tryz.func15, Tryz.ntmps15
 go_upto_region 1 with (first | ((with_reducible refine gate_dst (N := 1) rfl ?_); (try (refine gate_guard (by rfl) ?_; dsimp only)); refine bev (#[.int .i64 a0_0, .int .i64 a0_1, .int .i64 a0_2, .string a0_3, .int .i64 a0_4]) 25 ?_; intro gb974 hg w3 hbox hb; have BK974 := am (hbox); have GW974 := gs hg HB; have GE974 := GW974; replace HB := sb HB hb; clear hb hbox hg))
 (try simp only [Act.put, List.setIfInBounds_toArray, List.set_cons_zero, List.set_cons_succ])
 go_cut [3] (fun v3 wc => ∃ (kq : Nat) (x3_1 : Bool), v3 = .bool x3_1 ∧ Aside0 (soffitref04_Sound.j0 kq x3_1 a0_0 a0_1 a0_2 a0_3 a0_4 = some r) ∧ Aside0 (kq ≤ k) ∧ Aside0 (wc.heap[gb974]? = some (.cells #[.int .i64 a0_0, .int .i64 a0_1, .int .i64 a0_2, .string a0_3, .int .i64 a0_4] 25 (0, 0))) ∧ Aside0 (Below w.heap.size w wc))
 case first =>
  have H := HC2.out
  clear HC2
  by_cases c4 : a0_1 = 0
  ·replace H := ipe c4 H
   obtain ⟨H, c4b0, c4b1⟩ := H
   clear c4
   (first | rw [c4b0] | (simp only [i64_w, i32_w]; rw [c4b0]) | skip)
   have H' := am H
   clear H
   obtain ⟨Z5_0, Z5_1, Z5_2, Z5_3, Z5_4, F5_0, F5_1, F5_2, F5_3, F5_4⟩ := cz5 BK974.out
   go_wp2
   go_meet
   case rel => exact ⟨_, ((a0_2 == 0)), sz, H', ⟨oz⟩, ⟨bk BK974.out⟩, ⟨bz HB.out⟩⟩
  replace H := ine c4 H
  obtain ⟨H, c4b0, c4b1⟩ := H
  (first | rw [c4b0] | (simp only [i64_w, i32_w]; rw [c4b0]) | skip)
  have H' := am H
  clear H
  obtain ⟨Z6_0, Z6_1, Z6_2, Z6_3, Z6_4, F6_0, F6_1, F6_2, F6_3, F6_4⟩ := cz5 BK974.out
  go_wp2
  go_meet
  case rel => exact ⟨_, (false), sz, H', ⟨oz⟩, ⟨bk BK974.out⟩, ⟨bz HB.out⟩⟩
 case rest =>
  clear HC2
  skip
  obtain ⟨kq, x3_1, rfl, HA, HJ1, BK974, HB⟩ := hcut
  cases kq with
  | zero => exact absurd HA.out (by simp [soffitref04_Sound.j0])
  | succ kj1 =>
   have H := HA.out
   clear HA
   simp only [soffitref04_Sound.j0] at H
   have HC7 := am H
   clear H
   obtain ⟨Z8_0, Z8_1, Z8_2, Z8_3, Z8_4, F8_0, F8_1, F8_2, F8_3, F8_4⟩ := cz5 BK974.out
   go_upto_if 16 with (fail)
   have H := HC7.out
   clear HC7
   clear Z8_0 Z8_1 Z8_2 Z8_3 Z8_4 F8_0 F8_1 F8_2 F8_3 F8_4
   by_cases c9 : a0_0 = 0
   ·replace H := ipe c9 H
    obtain ⟨H, c9b0, c9b1⟩ := H
    clear c9
    (first | rw [c9b0] | (simp only [i64_w, i32_w]; rw [c9b0]) | skip)
    by_cases c10 : x3_1 = true
    ·subst c10
     replace H := ift H
     by_cases c11 : a0_3.toList = ([] : List UInt8)
     ·rw [if_pos c11] at H
      have c11b0 : (a0_3.toList == ([] : List UInt8)) = true := beq_iff_eq.mpr c11
      (try (have c11be : (a0_3.toList.isEmpty) = true := by (try simp only [isEmpty_beq]); exact c11b0))
      have c11b1 : (a0_3.toList != ([] : List UInt8)) = false := bne_eq_false_iff_eq.mpr c11
      clear c11
      obtain rfl := Option.some.inj H
      obtain ⟨Z12_0, Z12_1, Z12_2, Z12_3, Z12_4, F12_0, F12_1, F12_2, F12_3, F12_4⟩ := cz5 BK974.out
      go_wp2
      go_ret
      exact ⟨az, bz HB.out⟩
     rw [if_neg c11] at H
     have c11b0 : (a0_3.toList == ([] : List UInt8)) = false := beq_eq_false_iff_ne.mpr c11
     (try (have c11be : (a0_3.toList.isEmpty) = false := by (try simp only [isEmpty_beq]); exact c11b0))
     have c11b1 : (a0_3.toList != ([] : List UInt8)) = true := bne_iff_ne.mpr c11
     obtain rfl := Option.some.inj H
     obtain ⟨Z13_0, Z13_1, Z13_2, Z13_3, Z13_4, F13_0, F13_1, F13_2, F13_3, F13_4⟩ := cz5 BK974.out
     go_wp2
     go_ret
     exact ⟨az, bz HB.out⟩
    replace c10 := Bool.eq_false_iff.mpr c10
    subst c10
    replace H := iff_ H
    obtain rfl := Option.some.inj H
    go_wp2
    go_ret
    exact ⟨az, bz HB.out⟩
   replace H := ine c9 H
   obtain ⟨H, c9b0, c9b1⟩ := H
   (first | rw [c9b0] | (simp only [i64_w, i32_w]; rw [c9b0]) | skip)
   by_cases c14 : a0_0 = 1
   ·replace H := ipe c14 H
    obtain ⟨H, c14b0, c14b1⟩ := H
    clear c14
    replace H := obe H
    obtain ⟨t975, A15, H⟩ := H
    by_cases c16 : t975 = true
    ·subst c16
     replace H := ift H
     by_cases c17 : a0_3.toList = ([] : List UInt8)
     ·rw [if_pos c17] at H
      have c17b0 : (a0_3.toList == ([] : List UInt8)) = true := beq_iff_eq.mpr c17
      (try (have c17be : (a0_3.toList.isEmpty) = true := by (try simp only [isEmpty_beq]); exact c17b0))
      have c17b1 : (a0_3.toList != ([] : List UInt8)) = false := bne_eq_false_iff_eq.mpr c17
      clear c17
      obtain rfl := Option.some.inj H
      obtain ⟨Z18_0, Z18_1, Z18_2, Z18_3, Z18_4, F18_0, F18_1, F18_2, F18_3, F18_4⟩ := cz5 BK974.out
      go_wp2_with (first | ((with_reducible refine gate_callee (f := 23) rfl ?_); refine gl_ (some 33) Tryz.func23 (by kernel_rfl) #[.agg #[.int .i64 a0_1, .int .i64 a0_2]] rfl ?_; (with_reducible refine (soffitref01_Sound.calls kj1 a0_1 a0_2 true _ A15.out).mono ?_); rintro e w19 ⟨rfl, hb⟩; refine ⟨_, rfl, ?_⟩; replace BK974 := kb BK974 hb; replace HB := sb HB hb; clear hb; obtain ⟨Z20_0, Z20_1, Z20_2, Z20_3, Z20_4, F20_0, F20_1, F20_2, F20_3, F20_4⟩ := cz5 BK974.out))
      go_ret
      exact ⟨az, bz HB.out⟩
     rw [if_neg c17] at H
     have c17b0 : (a0_3.toList == ([] : List UInt8)) = false := beq_eq_false_iff_ne.mpr c17
     (try (have c17be : (a0_3.toList.isEmpty) = false := by (try simp only [isEmpty_beq]); exact c17b0))
     have c17b1 : (a0_3.toList != ([] : List UInt8)) = true := bne_iff_ne.mpr c17
     obtain rfl := Option.some.inj H
     obtain ⟨Z21_0, Z21_1, Z21_2, Z21_3, Z21_4, F21_0, F21_1, F21_2, F21_3, F21_4⟩ := cz5 BK974.out
     go_wp2_with (first | ((with_reducible refine gate_callee (f := 23) rfl ?_); refine gl_ (some 33) Tryz.func23 (by kernel_rfl) #[.agg #[.int .i64 a0_1, .int .i64 a0_2]] rfl ?_; (with_reducible refine (soffitref01_Sound.calls kj1 a0_1 a0_2 true _ A15.out).mono ?_); rintro e w22 ⟨rfl, hb⟩; refine ⟨_, rfl, ?_⟩; replace BK974 := kb BK974 hb; replace HB := sb HB hb; clear hb; obtain ⟨Z23_0, Z23_1, Z23_2, Z23_3, Z23_4, F23_0, F23_1, F23_2, F23_3, F23_4⟩ := cz5 BK974.out))
     go_ret
     exact ⟨az, bz HB.out⟩
    replace c16 := Bool.eq_false_iff.mpr c16
    subst c16
    replace H := iff_ H
    obtain rfl := Option.some.inj H
    obtain ⟨Z24_0, Z24_1, Z24_2, Z24_3, Z24_4, F24_0, F24_1, F24_2, F24_3, F24_4⟩ := cz5 BK974.out
    go_wp2_with (first | ((with_reducible refine gate_callee (f := 23) rfl ?_); refine gl_ (some 33) Tryz.func23 (by kernel_rfl) #[.agg #[.int .i64 a0_1, .int .i64 a0_2]] rfl ?_; (with_reducible refine (soffitref01_Sound.calls kj1 a0_1 a0_2 false _ A15.out).mono ?_); rintro e w25 ⟨rfl, hb⟩; refine ⟨_, rfl, ?_⟩; replace BK974 := kb BK974 hb; replace HB := sb HB hb; clear hb))
    go_ret
    exact ⟨az, bz HB.out⟩
   replace H := ine c14 H
   obtain ⟨H, c14b0, c14b1⟩ := H
   by_cases c26 : a0_0 = 2
   ·replace H := ipe c26 H
    obtain ⟨H, c26b0, c26b1⟩ := H
    clear c26
    by_cases c27 : x3_1 = true
    ·subst c27
     replace H := ift H
     by_cases c28 : a0_4 = 0
     ·replace H := ipe c28 H
      obtain ⟨H, c28b0, c28b1⟩ := H
      clear c28
      by_cases c29 : (a0_3.size : Int) ≤ 256
      ·rw [if_pos c29] at H
       have c29b0 : decide ((a0_3.size : Int) ≤ 256) = true := decide_eq_true c29
       have c29b1 : decide (a0_3.size ≤ 256) = true := decide_eq_true (by omega)
       clear c29
       replace H := obe H
       obtain ⟨t976, A30, H⟩ := H
       obtain rfl := Option.some.inj H
       obtain ⟨Z31_0, Z31_1, Z31_2, Z31_3, Z31_4, F31_0, F31_1, F31_2, F31_3, F31_4⟩ := cz5 BK974.out
       go_wp2_with (first | (go_at_call 42; (with_reducible refine (soffitref04_good.calls kj1 a0_3 t976 _ A30.out).mono ?_); rintro e w' ⟨rfl, ⟨nd, rfl⟩⟩))
       go_ret
       exact ⟨az, bz HB.out⟩
      rw [if_neg c29] at H
      have c29b0 : decide ((a0_3.size : Int) ≤ 256) = false := decide_eq_false c29
      have c29b1 : decide (a0_3.size ≤ 256) = false := decide_eq_false (by omega)
      clear c29
      obtain rfl := Option.some.inj H
      obtain ⟨Z32_0, Z32_1, Z32_2, Z32_3, Z32_4, F32_0, F32_1, F32_2, F32_3, F32_4⟩ := cz5 BK974.out
      go_wp2
      go_ret
      exact ⟨az, bz HB.out⟩
     replace H := ine c28 H
     obtain ⟨H, c28b0, c28b1⟩ := H
     obtain rfl := Option.some.inj H
     obtain ⟨Z33_0, Z33_1, Z33_2, Z33_3, Z33_4, F33_0, F33_1, F33_2, F33_3, F33_4⟩ := cz5 BK974.out
     go_wp2
     go_ret
     exact ⟨az, bz HB.out⟩
    replace c27 := Bool.eq_false_iff.mpr c27
    subst c27
    replace H := iff_ H
    obtain rfl := Option.some.inj H
    go_wp2
    go_ret
    exact ⟨az, bz HB.out⟩
   replace H := ine c26 H
   obtain ⟨H, c26b0, c26b1⟩ := H
   by_cases c34 : a0_0 = 3
   ·replace H := ipe c34 H
    obtain ⟨H, c34b0, c34b1⟩ := H
    clear c34
    by_cases c35 : x3_1 = true
    ·subst c35
     replace H := ift H
     by_cases c36 : a0_3.toList = ([] : List UInt8)
     ·rw [if_pos c36] at H
      have c36b0 : (a0_3.toList == ([] : List UInt8)) = true := beq_iff_eq.mpr c36
      (try (have c36be : (a0_3.toList.isEmpty) = true := by (try simp only [isEmpty_beq]); exact c36b0))
      have c36b1 : (a0_3.toList != ([] : List UInt8)) = false := bne_eq_false_iff_eq.mpr c36
      clear c36
      by_cases c37 : a0_4 = 0
      ·replace H := ipe c37 H
       obtain ⟨H, c37b0, c37b1⟩ := H
       clear c37
       obtain rfl := Option.some.inj H
       obtain ⟨Z38_0, Z38_1, Z38_2, Z38_3, Z38_4, F38_0, F38_1, F38_2, F38_3, F38_4⟩ := cz5 BK974.out
       go_wp2
       go_ret
       exact ⟨az, bz HB.out⟩
      replace H := ine c37 H
      obtain ⟨H, c37b0, c37b1⟩ := H
      obtain rfl := Option.some.inj H
      obtain ⟨Z39_0, Z39_1, Z39_2, Z39_3, Z39_4, F39_0, F39_1, F39_2, F39_3, F39_4⟩ := cz5 BK974.out
      go_wp2
      go_ret
      exact ⟨az, bz HB.out⟩
     rw [if_neg c36] at H
     have c36b0 : (a0_3.toList == ([] : List UInt8)) = false := beq_eq_false_iff_ne.mpr c36
     (try (have c36be : (a0_3.toList.isEmpty) = false := by (try simp only [isEmpty_beq]); exact c36b0))
     have c36b1 : (a0_3.toList != ([] : List UInt8)) = true := bne_iff_ne.mpr c36
     obtain rfl := Option.some.inj H
     obtain ⟨Z40_0, Z40_1, Z40_2, Z40_3, Z40_4, F40_0, F40_1, F40_2, F40_3, F40_4⟩ := cz5 BK974.out
     go_wp2
     go_ret
     exact ⟨az, bz HB.out⟩
    replace c35 := Bool.eq_false_iff.mpr c35
    subst c35
    replace H := iff_ H
    obtain rfl := Option.some.inj H
    go_wp2
    go_ret
    exact ⟨az, bz HB.out⟩
   replace H := ine c34 H
   obtain ⟨H, c34b0, c34b1⟩ := H
   by_cases c41 : a0_0 = 4
   ·replace H := ipe c41 H
    obtain ⟨H, c41b0, c41b1⟩ := H
    clear c41
    by_cases c42 : x3_1 = true
    ·subst c42
     replace H := ift H
     by_cases c43 : a0_3.toList = ([] : List UInt8)
     ·rw [if_pos c43] at H
      have c43b0 : (a0_3.toList == ([] : List UInt8)) = true := beq_iff_eq.mpr c43
      (try (have c43be : (a0_3.toList.isEmpty) = true := by (try simp only [isEmpty_beq]); exact c43b0))
      have c43b1 : (a0_3.toList != ([] : List UInt8)) = false := bne_eq_false_iff_eq.mpr c43
      clear c43
      by_cases c44 : a0_4 ≥ 0
      ·rw [if_pos c44] at H
       have c44b0 : decide (0 ≤ a0_4) = true := decide_eq_true c44
       clear c44
       obtain rfl := Option.some.inj H
       obtain ⟨Z45_0, Z45_1, Z45_2, Z45_3, Z45_4, F45_0, F45_1, F45_2, F45_3, F45_4⟩ := cz5 BK974.out
       go_wp2
       go_ret
       exact ⟨az, bz HB.out⟩
      rw [if_neg c44] at H
      have c44b0 : decide (0 ≤ a0_4) = false := decide_eq_false c44
      clear c44
      obtain rfl := Option.some.inj H
      obtain ⟨Z46_0, Z46_1, Z46_2, Z46_3, Z46_4, F46_0, F46_1, F46_2, F46_3, F46_4⟩ := cz5 BK974.out
      go_wp2
      go_ret
      exact ⟨az, bz HB.out⟩
     rw [if_neg c43] at H
     have c43b0 : (a0_3.toList == ([] : List UInt8)) = false := beq_eq_false_iff_ne.mpr c43
     (try (have c43be : (a0_3.toList.isEmpty) = false := by (try simp only [isEmpty_beq]); exact c43b0))
     have c43b1 : (a0_3.toList != ([] : List UInt8)) = true := bne_iff_ne.mpr c43
     obtain rfl := Option.some.inj H
     obtain ⟨Z47_0, Z47_1, Z47_2, Z47_3, Z47_4, F47_0, F47_1, F47_2, F47_3, F47_4⟩ := cz5 BK974.out
     go_wp2
     go_ret
     exact ⟨az, bz HB.out⟩
    replace c42 := Bool.eq_false_iff.mpr c42
    subst c42
    replace H := iff_ H
    obtain rfl := Option.some.inj H
    go_wp2
    go_ret
    exact ⟨az, bz HB.out⟩
   replace H := ine c41 H
   obtain ⟨H, c41b0, c41b1⟩ := H
   obtain rfl := Option.some.inj H
   go_wp2
   go_ret
   exact ⟨az, bz HB.out⟩
end Go.Proofs.YtgkemhgihbfmmaaGreatDoor.PA
end
section
namespace Go.Proofs.YtgkemhgihbfmmaaGreatDoor.PA
open Go.RowKit Go.Proofs.YtgkemhgihbfmmaaGreatDoorW.PrintWords Go.Proofs.YtgkemhgihbfmmaaGreatDoorW.PrintLast Go.Proofs.YtgkemhgihbfmmaaGreatDoorW.PrintMore
attribute [local go_sem] max2_int min2_int max_two min_two max_three min_three max_four min_four isSome_set str_gtr
set_option linter.unusedVariables false
set_option linter.unusedSimpArgs false
def soffitref10_Truth.f (a0 : Bool) : Option (Int × Int × Int × ByteArray × Int) := if a0 = true then (some (3, 0, 0, (⟨#[]⟩ : ByteArray), 1)) else (some (3, 0, 0, (⟨#[]⟩ : ByteArray), 0))
set_option maxHeartbeats 8000000 in
set_option maxRecDepth 100000 in
theorem soffitref10_Truth.calls (a0 : Bool) (r1 r2 r3 : Int) (r4 : ByteArray) (r5 : Int) (w : World) (h : soffitref10_Truth.f a0 = some (r1, r2, r3, r4, r5)) :
  Calls Tryz.prog 16 #[.bool a0] w fun e w' => e = .returned (.agg #[.int .i64 r1, .int .i64 r2, .int .i64 r3, .string r4, .int .i64 r5]) ∧ Below w.heap.size w w' := by
 have hu25 := Tryz.underlying25
 have HB := am (Below.refl w.heap.size w)
 have H : (if a0 = true then (some (3, 0, 0, (⟨#[]⟩ : ByteArray), 1)) else (some (3, 0, 0, (⟨#[]⟩ : ByteArray), 0))) = some (r1, r2, r3, r4, r5) := h
 clear h
 have HC2 := am H
 clear H
 go_enter Tryz.func16, Tryz.ntmps16
 go_upto_if 3 with (first | ((with_reducible refine gate_dst (N := 2) rfl ?_); refine bev (#[.int .i64 0, .int .i64 0, .int .i64 0, .string (⟨#[]⟩ : ByteArray), .int .i64 0]) 25 ?_; intro gb977 hg w3 hbox hb; have BK977 := am (hbox); have GW977 := gs hg HB; have GE977 := GW977; replace HB := sb HB hb; clear hb hbox hg))
 (try simp only [Act.put, List.setIfInBounds_toArray, List.set_cons_zero, List.set_cons_succ])
 have H := HC2.out
 clear HC2
 by_cases c4 : a0 = true
 ·subst c4
  replace H := ift H
  simp only [Option.some.injEq, Prod.mk.injEq] at H
  obtain ⟨rfl, rfl, rfl, rfl, rfl⟩ := H
  obtain ⟨Z5_0, Z5_1, Z5_2, Z5_3, Z5_4, F5_0, F5_1, F5_2, F5_3, F5_4⟩ := cz5 BK977.out
  go_wp2
  refine bodyPost_ret (results_cell_row rfl _ _ gb977 25 #[.int .i64 3, .int .i64 0, .int .i64 0, .string (⟨#[]⟩ : ByteArray), .int .i64 1] (0, 0) _ rfl (bp BK977.out) Tryz.underlying25 rfl (by kernel_rfl)) rfl ?_
  exact ⟨az, bz HB.out⟩
 replace c4 := Bool.eq_false_iff.mpr c4
 subst c4
 replace H := iff_ H
 simp only [Option.some.injEq, Prod.mk.injEq] at H
 obtain ⟨rfl, rfl, rfl, rfl, rfl⟩ := H
 obtain ⟨Z6_0, Z6_1, Z6_2, Z6_3, Z6_4, F6_0, F6_1, F6_2, F6_3, F6_4⟩ := cz5 BK977.out
 go_wp2
 refine bodyPost_ret (results_cell_row rfl _ _ gb977 25 #[.int .i64 3, .int .i64 0, .int .i64 0, .string (⟨#[]⟩ : ByteArray), .int .i64 0] (0, 0) _ rfl (bp BK977.out) Tryz.underlying25 rfl (by kernel_rfl)) rfl ?_
 exact ⟨az, bz HB.out⟩
end Go.Proofs.YtgkemhgihbfmmaaGreatDoor.PA
end
section
namespace Go.Proofs.YtgkemhgihbfmmaaGreatDoor.PA
open Go.RowKit Go.Proofs.YtgkemhgihbfmmaaGreatDoorW.PrintWords Go.Proofs.YtgkemhgihbfmmaaGreatDoorW.PrintLast Go.Proofs.YtgkemhgihbfmmaaGreatDoorW.PrintMore
attribute [local go_sem] max2_int min2_int max_two min_two max_three min_three max_four min_four isSome_set str_gtr
set_option linter.unusedVariables false
set_option linter.unusedSimpArgs false
def soffitref01_digits.l0 : Nat → Int → Int → List Int → Int → Option (List Int)
 | 0, _, _, _, _ => none
 | k + 1, x0, x1, x5, x6 => if x6 < x1 then (if 0 ≤ x6 then (if x6 < (x5.length : Int) then (soffitref01_digits.l0 k (wrap64 (Int.tdiv x0 10)) x1 (x5.set (x6 : Int).toNat (Int.tmod x0 10)) (wrap64 (x6 + 1))) else (none)) else (none)) else (some x5)
def soffitref01_digits.f (k : Nat) (a0 a1 : Int) : Option (List Int) := if 0 ≤ a1 then (if (a1 : Int).toNat ≤ 35184372088832 then (soffitref01_digits.l0 k a0 a1 (List.replicate (a1 : Int).toNat 0) 0) else (none)) else (none)
set_option maxHeartbeats 8000000 in
set_option maxRecDepth 100000 in
theorem soffitref01_digits.calls (k : Nat) (a0 a1 : Int) (r : List Int) (w : World) (h : soffitref01_digits.f k a0 a1 = some r) :
  Calls Tryz.prog 85 #[.int .i64 a0, .int .i64 a1] w fun e w' => ∃ v0_ : Value, e = .returned (v0_) ∧ Kd.R (Kd.int .i64) 3 w' w.heap.size (fun _ => True) v0_ r ∧ Below w.heap.size w w' := by
 have HB := am (Below.refl w.heap.size w)
 have H : (if 0 ≤ a1 then (if (a1 : Int).toNat ≤ 35184372088832 then (soffitref01_digits.l0 k a0 a1 (List.replicate (a1 : Int).toNat 0) 0) else (none)) else (none)) = some r := h
 clear h
 by_cases c3 : 0 ≤ a1
 ·rw [if_pos c3] at H
  have c3b0 := eq_true c3
  have c3b1 : decide (0 ≤ a1) = true := decide_eq_true c3
  clear c3
  by_cases c4 : (a1 : Int).toNat ≤ 35184372088832
  ·rw [if_pos c4] at H
   have c4b0 := eq_true c4
   have c4b1 : decide ((a1 : Int).toNat ≤ 35184372088832) = true := decide_eq_true c4
   clear c4
   obtain ⟨y978, hy978⟩ : ∃ y_ : List Int, y_ = (List.replicate (a1 : Int).toNat 0) := ⟨_, rfl⟩
   replace H : (soffitref01_digits.l0 k a0 a1 y978 0) = some r := by first | (rw [hy978]; with_reducible exact H) | (have H2_ := (Option.bind_some _ _).symm.trans H; rw [hy978]; with_reducible exact H2_) | (have H2_ := (Option.bind_some _ _).symm.trans H; with_reducible exact H2_) | with_reducible exact H | (rw [hy978]; exact H) | exact H
   have Ny978 := am hy978
   clear hy978
   have H' := am H
   clear H
   go_enter Tryz.func85, Tryz.ntmps85
   go_wp2_with (first | ((with_reducible refine gate_dst (N := 8) rfl ?_); refine Kd.R_make (Kd.int .i64) _ 3 rfl (N := 8) rfl 79 _ _ rfl a1 rfl rfl Tryz.underlying79 (.int .i64 0) 8 info3 rfl (by decide) (by omega) 0 (ok := fun _ => True) (okp := fun _ => True) rfl (fun _ hk => hk) trivial (of_decide_eq_true tz) (Nat.le_trans (Nat.mul_le_mul_right _ (of_decide_eq_true tz : a1.toNat ≤ 35184372088832)) (by omega)) (Below.refl _ _) (Nat.le_refl _) ?_; intro v979 w5 ho6 hb hg_ hnew_; clear hg_ hnew_; (first | rw [← Ny978.out] at ho6 | (simp only [Int.reduceToNat] at ho6; rw [← Ny978.out] at ho6)); have HO980 := am (Kd.R_lower ho6 (below_size (bz HB.out))); replace HB := sb HB hb; clear hb ho6))
   (try simp only [Act.put, List.setIfInBounds_toArray, List.set_cons_succ, List.set_cons_zero])
   go_loopg [0, 6] k (fun kq v0 v6 w' => ∃ (x0_1 : Int) (x5_1 : List Int) (x6_1 : Int), v0 = .int .i64 x0_1 ∧ v6 = .int .i64 x6_1 ∧ Aside0 (soffitref01_digits.l0 kq x0_1 a1 x5_1 x6_1 = some r) ∧ Aside0 (kq ≤ k) ∧ Aside0 (Kd.R (Kd.int .i64) 3 w' w.heap.size (fun _ => True) v979 x5_1) ∧ Aside0 (Below w.heap.size w w'))
   case atStart => exact ⟨(a0), (y978), (0), sz, sz, H', ⟨Nat.le_refl _⟩, ⟨rr HO980.out⟩, ⟨bz HB.out⟩⟩
   case round =>
    clear H'
    try clear c3; try clear c3b0; try clear c3b1; try clear c4; try clear c4b0; try clear c4b1
    obtain ⟨x0_1, x5_1, x6_1, rfl, rfl, HA, HK1, HO_5, HB⟩ := hrel
    cases gk with
    | zero => exact absurd HA.out (by simp [soffitref01_digits.l0])
    | succ k1 =>
     have H := HA.out
     clear HA
     simp only [soffitref01_digits.l0] at H
     by_cases c7 : x6_1 < a1
     ·rw [if_pos c7] at H
      have c7b0 : decide (x6_1 < a1) = true := decide_eq_true c7
      clear c7
      by_cases c8 : 0 ≤ x6_1
      ·rw [if_pos c8] at H
       have c8b0 : decide (0 ≤ x6_1) = true := decide_eq_true c8
       clear c8
       by_cases c9 : x6_1 < (x5_1.length : Int)
       ·rw [if_pos c9] at H
        have c9b0 : decide (x6_1 < (x5_1.length : Int)) = true := decide_eq_true c9
        clear c9
        obtain ⟨y981, hy981⟩ : ∃ y_ : List Int, y_ = (x5_1.set (x6_1 : Int).toNat (Int.tmod x0_1 10)) := ⟨_, rfl⟩
        replace H : (soffitref01_digits.l0 k1 (wrap64 (Int.tdiv x0_1 10)) a1 y981 (wrap64 (x6_1 + 1))) = some r := by first | (rw [hy981]; with_reducible exact H) | (have H2_ := (Option.bind_some _ _).symm.trans H; rw [hy981]; with_reducible exact H2_) | (have H2_ := (Option.bind_some _ _).symm.trans H; with_reducible exact H2_) | with_reducible exact H | (rw [hy981]; exact H) | exact H
        have Ny981 := am hy981
        clear hy981
        have H' := am H
        clear H
        have p10 : 0 ≤ (x6_1 : Int) := of_decide_eq_true tz
        have q10 : (x6_1 : Int) < ((x5_1.length : Int) : Int) := of_decide_eq_true tz
        obtain ⟨go10, co10, eo10, gb10, gl10, cl10, HG10⟩ := Kd.R_form HO_5.out (by omega)
        (first | cases eo10 | (injection eo10 with ea_ en_ ec_; (first | subst ea_ | (injection ea_ with ea_; subst ea_)); subst ec_; clear en_))
        have GB10 := am gb10
        have GG10 := am HG10
        clear gb10 gl10 HG10
        obtain ⟨hx10_0, hf10_0⟩ := Kd.R_celln 0 HO_5.out (x6_1 : Int) p10 q10
        replace p10 := eq_true p10
        replace q10 := eq_true q10
        obtain ⟨hy11_, hz11_⟩ := Kd.R_celln 0 HO_5.out (x6_1 : Int) (of_decide_eq_true tz) (of_decide_eq_true tz)
        have HP11 := Kd.R_putg HO_5.out (x6_1 : Int) (Int.tmod x0_1 10)
        go_wp2_with (first | ((with_reducible refine gate_store (t := 3) (p := 18) rfl ?_); refine store_event (t := 3) (p := 18) (v := ?vo_w12) (w1 := (wr.setCell ⟨go10, (x6_1 : Int).toNat, none⟩ (.int .i64 (Int.tmod x0_1 10)))) ?hg ?ho ?hn ?hr ?_; (case ho => rfl); (case hg => rfl); (case hn => rfl); (case hr => first | (go_simp; done) | (go_simp; rfl)); intro w12 hw; have hg : wr.grownBy w12 (some go10) := (by rw [hw]; exact HP11.2); have hp_ : Kd.R (Kd.int .i64) 3 w12 w.heap.size (fun _ => True) (.slice (some ⟨go10, 0, none⟩) x5_1.length co10) y981 := (by rw [hw, Ny981.out]; exact HP11.1); clear HP11; replace HO_5 := am (hp_); replace HB := am ((by rw [hw]; exact below_set (HB.out) GB10.out : Below w.heap.size w w12)); clear hg hw hp_))
        go_roundg k1
        case measure => have := HK1.out; omega
        case rel => exact ⟨(wrap64 (Int.tdiv x0_1 10)), (y981), (wrap64 (x6_1 + 1)), sz, sz, H', ⟨by have := HK1.out; omega⟩, ⟨rr HO_5.out⟩, ⟨bz HB.out⟩⟩
       rw [if_neg c9] at H
       exact absurd H (by simp)
      rw [if_neg c8] at H
      exact absurd H (by simp)
     rw [if_neg c7] at H
     have c7b0 : decide (x6_1 < a1) = false := decide_eq_false c7
     clear c7
     obtain rfl := Option.some.inj H
     go_wp2
     go_ret
     exact ⟨_, az, rr HO_5.out, bz HB.out⟩
  rw [if_neg c4] at H
  exact absurd H (by simp)
 rw [if_neg c3] at H
 exact absurd H (by simp)
end Go.Proofs.YtgkemhgihbfmmaaGreatDoor.PA
end
section
namespace Go.Proofs.YtgkemhgihbfmmaaGreatDoor.PA
open Go.RowKit Go.Proofs.YtgkemhgihbfmmaaGreatDoorW.PrintWords Go.Proofs.YtgkemhgihbfmmaaGreatDoorW.PrintLast Go.Proofs.YtgkemhgihbfmmaaGreatDoorW.PrintMore
attribute [local go_sem] max2_int min2_int max_two min_two max_three min_three max_four min_four isSome_set str_gtr
set_option linter.unusedVariables false
set_option linter.unusedSimpArgs false
def soffitref01_size.f (a0 : Int) : Option (Int) := if a0 < 0 then (some (wrap64 (-a0))) else (some a0)
set_option maxHeartbeats 8000000 in
set_option maxRecDepth 100000 in
theorem soffitref01_size.calls (a0 r : Int) (w : World) (h : soffitref01_size.f a0 = some r) :
  Calls Tryz.prog 86 #[.int .i64 a0] w fun e w' => e = .returned (.int .i64 r) ∧ Drawn0 w w' := by
 have H : (if a0 < 0 then (some (wrap64 (-a0))) else (some a0)) = some r := h
 clear h
 by_cases c2 : a0 < 0
 ·rw [if_pos c2] at H
  have c2b0 : decide (a0 < 0) = true := decide_eq_true c2
  clear c2
  obtain rfl := Option.some.inj H
  go_enter Tryz.func86, Tryz.ntmps86
  go_wp2
  go_ret
  exact ⟨sz, dz⟩
 rw [if_neg c2] at H
 have c2b0 : decide (a0 < 0) = false := decide_eq_false c2
 clear c2
 obtain rfl := Option.some.inj H
 go_enter Tryz.func86, Tryz.ntmps86
 go_wp2
 go_ret
 exact ⟨sz, dz⟩
end Go.Proofs.YtgkemhgihbfmmaaGreatDoor.PA
end
section
namespace Go.Proofs.YtgkemhgihbfmmaaGreatDoor.PA
open Go.RowKit Go.Proofs.YtgkemhgihbfmmaaGreatDoorW.PrintWords Go.Proofs.YtgkemhgihbfmmaaGreatDoorW.PrintLast Go.Proofs.YtgkemhgihbfmmaaGreatDoorW.PrintMore
attribute [local go_sem] max2_int min2_int max_two min_two max_three min_three max_four min_four isSome_set str_gtr
set_option linter.unusedVariables false
set_option linter.unusedSimpArgs false
def soffitref01_long.l0 : Nat → List Int → List Int → Int → Int → Int → Option (List Int)
 | 0, _, _, _, _, _ => none
 | k + 1, x3, x4, x5, x983000, x983001 => if x5 < 12 then (if 0 ≤ x5 then (if x5 < (x4.length : Int) then (if 0 ≤ (wrap64 ((wrap64 (x5 + 12)) - x983001)) then (if (wrap64 ((wrap64 (x5 + 12)) - x983001)) < (x3.length : Int) then (soffitref01_long.l0 k (x3.set ((wrap64 ((wrap64 (x5 + 12)) - x983001)) : Int).toNat (rd x4 x5)) x4 (wrap64 (x5 + 1)) x983000 x983001) else (none)) else (none)) else (none)) else (none)) else (some x3)
def soffitref01_long.f (k : Nat) (a0_0 a0_1 : Int) : Option (List Int) := if 60 ≤ 35184372088832 then ((soffitref01_size.f a0_0).bind fun t986 => ((soffitref01_digits.f k t986 12).bind fun t987 => (soffitref01_long.l0 k (List.replicate 60 0) t987 0 a0_0 a0_1))) else (none)
def soffitref01_long.T6 : Bool × List (List Nat × List Nat) := (true, [([], []), ([], []), ([1], [1]), ([], []), ([3], [3]), ([2, 4], [2, 4]), ([], []), ([], []), ([6, 7], [6, 7]), ([8], [8]), ([0, 5, 0, 1, 2, 3, 4, 5, 6, 7, 8, 9], [0, 5]), ([10, 9, 0, 1, 2, 3, 4, 5, 6, 7, 8, 9], [9, 10])])
def soffitref01_long.B6 : List Nat := [0, 0, 2, 0, 8, 30, 0, 0, 192, 448, 1023, 2047]
theorem soffitref01_long.tab6 : rtab .any (opsOf Tryz.f46 6) = soffitref01_long.T6 := by kernel_rfl
theorem soffitref01_long.bits6 : waitsOk soffitref01_long.T6.2 soffitref01_long.B6 = true := by kernel_rfl
set_option maxHeartbeats 8000000 in
set_option maxRecDepth 100000 in
theorem soffitref01_long.calls (k : Nat) (a0_0 a0_1 : Int) (r : List Int) (w : World) (h : soffitref01_long.f k a0_0 a0_1 = some r) :
  Calls Tryz.prog 46 #[.agg #[.int .i64 a0_0, .int .i64 a0_1]] w fun e w' => ∃ v0_ : Value, e = .returned (v0_) ∧ Kd.R (Kd.int .i64) 3 w' w.heap.size (fun _ => True) v0_ r ∧ Below w.heap.size w w' := by
 have hu23 := Tryz.underlying23
 have HB := am (Below.refl w.heap.size w)
 have H : (if 60 ≤ 35184372088832 then ((soffitref01_size.f a0_0).bind fun t986 => ((soffitref01_digits.f k t986 12).bind fun t987 => (soffitref01_long.l0 k (List.replicate 60 0) t987 0 a0_0 a0_1))) else (none)) = some r := h
 clear h
 by_cases c2 : 60 ≤ 35184372088832
 ·rw [if_pos c2] at H
  have c2b0 := eq_true c2
  have c2b1 : decide (60 ≤ 35184372088832) = true := decide_eq_true c2
  clear c2
  obtain ⟨y983, hy983⟩ : ∃ y_ : List Int, y_ = (List.replicate 60 0) := ⟨_, rfl⟩
  replace H : ((soffitref01_size.f a0_0).bind fun t986 => ((soffitref01_digits.f k t986 12).bind fun t987 => (soffitref01_long.l0 k y983 t987 0 a0_0 a0_1))) = some r := by first | (rw [hy983]; with_reducible exact H) | (have H2_ := (Option.bind_some _ _).symm.trans H; rw [hy983]; with_reducible exact H2_) | (have H2_ := (Option.bind_some _ _).symm.trans H; with_reducible exact H2_) | with_reducible exact H | (rw [hy983]; exact H) | exact H
  have Ny983 := am hy983
  clear hy983
  replace H := obe H
  obtain ⟨t986, A3, H⟩ := H
  replace H := obe H
  obtain ⟨t987, A4, H⟩ := H
  have H' := am H
  clear H
  go_enter Tryz.func46, Tryz.ntmps46
  go_wp2_with (first | ((with_reducible refine gate_dst (N := 1) rfl ?_); refine bev (#[.int .i64 a0_0, .int .i64 a0_1]) 23 ?_; intro gb982 hg w5 hbox hb; have BK982 := am (hbox); have GW982 := gs hg HB; have GE982 := GW982; replace HB := sb HB hb; clear hb hbox hg) | ((with_reducible refine gate_dst (N := 6) rfl ?_); refine Kd.R_make (Kd.int .i64) _ 3 rfl (N := 6) rfl 79 _ _ rfl 60 rfl rfl Tryz.underlying79 (.int .i64 0) 8 info3 rfl (by decide) (by omega) 0 (ok := fun _ => True) (okp := fun _ => True) rfl (fun _ hk => hk) trivial (by omega) (by omega) (Below.refl _ _) (Nat.le_refl _) ?_; intro v984 w6 ho7 hb hg_ hnew_; clear hg_ hnew_; (first | rw [← Ny983.out] at ho7 | (simp only [Int.reduceToNat] at ho7; rw [← Ny983.out] at ho7)); have HO985 := am (Kd.R_lower ho7 (below_size (bz HB.out))); replace BK982 := kb BK982 hb; replace HB := sb HB hb; clear hb ho7; obtain ⟨Z8_0, Z8_1, F8_0, F8_1⟩ := cz2 BK982.out) | ((with_reducible refine gate_callee (f := 86) rfl ?_); refine gl_ (some 9) Tryz.func86 (by kernel_rfl) #[.int .i64 a0_0] rfl ?_; (with_reducible refine (soffitref01_size.calls a0_0 t986 _ A3.out).mono ?_); rintro e w' ⟨rfl, ⟨nd, rfl⟩⟩; refine ⟨_, rfl, ?_⟩) | ((with_reducible refine gate_callee (f := 85) rfl ?_); refine gl_ (some 10) Tryz.func85 (by kernel_rfl) #[.int .i64 t986, .int .i64 12] rfl ?_; (with_reducible refine (soffitref01_digits.calls k t986 12 t987 _ A4.out).mono ?_); rintro e w9 ⟨v988, rfl, ho0, hb⟩; refine ⟨_, rfl, ?_⟩; have HO989 := am (Kd.R_lower (Kd.R_new' ho0 (Kd.R_lt (rr HO985.out))) (below_size (bz HB.out))); replace HO985 := am (Kd.R_elder' (rr HO985.out) (Kd.R_base ho0) hb); replace BK982 := kb BK982 hb; replace HB := sb HB hb; clear hb ho0))
  (try simp only [Act.put, List.setIfInBounds_toArray, List.set_cons_succ, List.set_cons_zero])
  go_loopg [5] k (fun kq v5 w' => ∃ (x3_1 : List Int) (x5_1 : Int), v5 = .int .i64 x5_1 ∧ Aside0 (soffitref01_long.l0 kq x3_1 t987 x5_1 a0_0 a0_1 = some r) ∧ Aside0 (kq ≤ k) ∧ Aside0 (Kd.R (Kd.int .i64) 3 w' w.heap.size (fun k_ => some k_ ≠ (v988 : Value).ownBlock) v984 x3_1) ∧ Aside0 (Kd.R (Kd.int .i64) 3 w' w.heap.size (fun k_ => some k_ ≠ (v984 : Value).ownBlock) v988 t987) ∧ Aside0 (w'.heap[gb982]? = some (.cells #[.int .i64 a0_0, .int .i64 a0_1] 23 (0, 0))) ∧ Aside0 (Below w.heap.size w w'))
  case atStart => exact ⟨(y983), (0), sz, H', ⟨Nat.le_refl _⟩, ⟨by (with_reducible repeat (first | apply Kd.R_alloc | apply Kd.R_drewN | apply Kd.R_drew)); exact Kd.R_mono HO985.out (fun _ hk => hk.2)⟩, ⟨by (with_reducible repeat (first | apply Kd.R_alloc | apply Kd.R_drewN | apply Kd.R_drew)); exact Kd.R_mono HO989.out (fun _ hk => hk.2)⟩, ⟨bk BK982.out⟩, ⟨bz HB.out⟩⟩
  case round =>
   clear H'
   try clear c2; try clear c2b0; try clear c2b1; try clear Z8_0; try clear Z8_1; try clear F8_0; try clear F8_1
   obtain ⟨x3_1, x5_1, rfl, HA, HK1, HO_3, HO_4, BK982, HB⟩ := hrel
   cases gk with
   | zero => exact absurd HA.out (by simp [soffitref01_long.l0])
   | succ k1 =>
    have H := HA.out
    clear HA
    simp only [soffitref01_long.l0] at H
    by_cases c10 : x5_1 < 12
    ·rw [if_pos c10] at H
     have c10b0 : decide (x5_1 < 12) = true := decide_eq_true c10
     clear c10
     by_cases c11 : 0 ≤ x5_1
     ·rw [if_pos c11] at H
      have c11b0 : decide (0 ≤ x5_1) = true := decide_eq_true c11
      clear c11
      by_cases c12 : x5_1 < (t987.length : Int)
      ·rw [if_pos c12] at H
       have c12b0 : decide (x5_1 < (t987.length : Int)) = true := decide_eq_true c12
       clear c12
       obtain ⟨ji13, hji13⟩ : ∃ j_ : Int, (wrap64 ((wrap64 (x5_1 + 12)) - a0_1)) = j_ := ⟨_, rfl⟩
       replace H : (if 0 ≤ (ji13) then (if (ji13) < (x3_1.length : Int) then (soffitref01_long.l0 k1 (x3_1.set ((ji13) : Int).toNat (rd t987 x5_1)) t987 (wrap64 (x5_1 + 1)) a0_0 a0_1) else (none)) else (none)) = some r := by first | (rw [hji13] at H; exact H) | (simp only [hji13] at H ⊢; exact H)
       have hji13w : (IntKind.i64.wrap ((wrap64 (x5_1 + 12)) - a0_1)) = ji13 := (i64_w _).trans hji13
       by_cases c14 : 0 ≤ (ji13)
       ·rw [if_pos c14] at H
        have c14b0 : decide (0 ≤ (ji13)) = true := decide_eq_true c14
        clear c14
        by_cases c15 : (ji13) < (x3_1.length : Int)
        ·rw [if_pos c15] at H
         have c15b0 : decide ((ji13) < (x3_1.length : Int)) = true := decide_eq_true c15
         clear c15
         obtain ⟨y991, hy991⟩ : ∃ y_ : List Int, y_ = (x3_1.set ((ji13) : Int).toNat (rd t987 x5_1)) := ⟨_, rfl⟩
         replace H : (soffitref01_long.l0 k1 y991 t987 (wrap64 (x5_1 + 1)) a0_0 a0_1) = some r := by first | (rw [hy991]; with_reducible exact H) | (have H2_ := (Option.bind_some _ _).symm.trans H; rw [hy991]; with_reducible exact H2_) | (have H2_ := (Option.bind_some _ _).symm.trans H; with_reducible exact H2_) | with_reducible exact H | (rw [hy991]; exact H) | exact H
         have Ny991 := am hy991
         clear hy991
         have H' := am H
         clear H
         try go_wp2
         replace HO_3 := am (Kd.R_drew HO_3.out)
         replace HO_4 := am (Kd.R_drew HO_4.out)
         replace BK982 := am (blk_drew BK982.out)
         replace HB := am (below_drew1 HB.out)
         obtain ⟨Ao18, co18, eo18⟩ := Kd.R_slice HO_4.out
         (first | subst eo18 | (injection eo18 with f1_ f2_ f3_; have f4_ := f1_.symm; have f5_ := f3_.symm; clear f1_ f2_ f3_; subst f4_; subst f5_))
         have p990 : 0 ≤ (x5_1 : Int) := of_decide_eq_true tz
         have q990 : x5_1 < (t987.length : Int) := of_decide_eq_true tz
         obtain ⟨ad990, e990, hx990_0⟩ := Kd.at_int (Kd.R_reads' HO_4.out).2.2 x5_1 p990 q990
         cases e990
         replace p990 := eq_true p990
         replace q990 := eq_true q990
         have p16 : 0 ≤ ((ji13) : Int) := of_decide_eq_true tz
         have q16 : ((ji13) : Int) < ((x3_1.length : Int) : Int) := of_decide_eq_true tz
         obtain ⟨go16, co16, eo16, gb16, gl16, cl16, HG16⟩ := Kd.R_form HO_3.out (by omega)
         (first | cases eo16 | (injection eo16 with ea_ en_ ec_; (first | subst ea_ | (injection ea_ with ea_; subst ea_)); subst ec_; clear en_))
         have GB16 := am gb16
         have GG16 := am HG16
         clear gb16 gl16 HG16
         obtain ⟨hx16_0, hf16_0⟩ := Kd.R_celln 0 HO_3.out ((ji13) : Int) p16 q16
         replace p16 := eq_true p16
         replace q16 := eq_true q16
         have HP19 := Kd.R_putn HO_3.out ((ji13) : Int) (rd t987 x5_1)
         rw [← Ny991.out] at HP19
         have HQ19 := am HP19
         clear HP19
         refine start_ (n := 12) (S := fun w' => w'.cell? ⟨gb982, 0, none⟩ = some (.int .i64 a0_0) ∧ w'.cell? ⟨gb982, 1, none⟩ = some (.int .i64 a0_1) ∧ w'.cell? (ad990.add (x5_1).toNat) = some (.int .i64 (rd t987 x5_1))) (ds := [11]) (bts0 12) (by kernel_rfl) rfl rfl ⟨(blk_cell BK982.out 0).trans rfl, (blk_cell BK982.out 1).trans rfl, hx990_0⟩ (fun hHeld => ?_); refine with_tabW soffitref01_long.tab6 soffitref01_long.bits6 (fun HT_ HW_ => ?_)
         generalize wr.drew = w17 at HO_3 HO_4 BK982 HB GG16 HQ19 hf16_0 hx16_0 hx990_0 hHeld ⊢
         refine pu 0 (some 15) (bts 12 1) (any_of HT_.out (by kernel_rfl)) ?_
         refine pu 1 (some 16) (bts 12 3) (any_of HT_.out (by kernel_rfl)) ?_
         refine pu 2 (some 17) (bts 12 7) (any_of HT_.out (by kernel_rfl)) ?_
         refine pu 3 (some 18) (bts 12 15) (any_of HT_.out (by kernel_rfl)) ?_
         refine pu 6 (some 21) (bts 12 79) (any_of HT_.out (by kernel_rfl)) ?_
         refine pu 7 (some 22) (bts 12 207) (any_of HT_.out (by kernel_rfl)) ?_
         refine pu 8 (some 23) (bts 12 463) (any_of HT_.out (by kernel_rfl)) ?_
         refine ta 4 (some 19) (bts 12 479) (take_ofW HT_.out HW_.out (by kernel_rfl)) hHeld ?_
         refine pu 5 (some 20) (bts 12 511) (any_of HT_.out (by kernel_rfl)) ?_
         refine ta 9 (some 24) (bts 12 1023) (take_ofW HT_.out HW_.out (by kernel_rfl)) hHeld ?_
         refine pu 10 (some 25) (bts 12 2047) (any_of HT_.out (by kernel_rfl)) ?_
         refine last_ (i := 11) (N := none) #[true, true, true, true, true, true, true, true, true, true, true, true] rfl rfl (one_of HT_.out (by kernel_rfl)) (by decide) (fun K hK => ?_)
         refine skip_ (w1 := ?_) (by rfl) rfl ?_ ?_
         rotate_left
         ·go_simp
          rfl
         refine hK.out _ _ ?_
         clear hK K
         refine done_ (done_of HT_.out (by kernel_rfl)) ?_
         try go_wp2
         go_roundg k1
         case measure => have := HK1.out; omega
         case rel => exact ⟨(y991), (wrap64 (x5_1 + 1)), sz, H', ⟨by have := HK1.out; omega⟩, ⟨rr HQ19.out⟩, ⟨vfR (Kd.R_mono HO_4.out (fun k_ hk => (⟨hk, fun e_ => hk (by rw [e_]; rfl)⟩ : _ ∧ k_ ≠ go16)))⟩, ⟨by (with_reducible repeat (first | refine blk_drewN ?_ _ | refine blk_drew ?_ | refine blk_alloc ?_ _)); refine blk_far ?_ (by have h_ := Kd.R_ne HO_3.out BK982.out (by decide); intro e_; exact h_ (by rw [e_]; rfl)) _; (with_reducible repeat (first | refine blk_drewN ?_ _ | refine blk_drew ?_ | refine blk_alloc ?_ _)); exact BK982.out⟩, ⟨bz HB.out⟩⟩
        rw [if_neg c15] at H
        exact absurd H (by simp)
       rw [if_neg c14] at H
       exact absurd H (by simp)
      rw [if_neg c12] at H
      exact absurd H (by simp)
     rw [if_neg c11] at H
     exact absurd H (by simp)
    rw [if_neg c10] at H
    have c10b0 : decide (x5_1 < 12) = false := decide_eq_false c10
    clear c10
    obtain rfl := Option.some.inj H
    go_wp2
    go_ret
    exact ⟨_, az, by (with_reducible repeat (first | apply Kd.R_alloc | apply Kd.R_drewN | apply Kd.R_drew)); exact Kd.R_mono HO_3.out (fun _ hk => trivial), bz HB.out⟩
 rw [if_neg c2] at H
 exact absurd H (by simp)
end Go.Proofs.YtgkemhgihbfmmaaGreatDoor.PA
end
section
namespace Go.Proofs.YtgkemhgihbfmmaaGreatDoor.PA
open Go.RowKit Go.Proofs.YtgkemhgihbfmmaaGreatDoorW.PrintWords Go.Proofs.YtgkemhgihbfmmaaGreatDoorW.PrintLast Go.Proofs.YtgkemhgihbfmmaaGreatDoorW.PrintMore
attribute [local go_sem] max2_int min2_int max_two min_two max_three min_three max_four min_four isSome_set str_gtr
set_option linter.unusedVariables false
set_option linter.unusedSimpArgs false
def soffitref01_less.l0 : Nat → List Int → List Int → Int → Option (Bool)
 | 0, _, _, _ => none
 | k + 1, x0, x1, x5 => if x5 ≥ 0 then (if 0 ≤ x5 then (if x5 < (x0.length : Int) then (if x5 < (x1.length : Int) then (if (rd x0 x5) = (rd x1 x5) then (soffitref01_less.l0 k x0 x1 (wrap64 (x5 - 1))) else (some (decide ((rd x0 x5) < (rd x1 x5))))) else (none)) else (none)) else (none)) else (some false)
def soffitref01_less.f (k : Nat) (l0 : List Int) (l1 : List Int) : Option (Bool) := soffitref01_less.l0 k l0 l1 (wrap64 ((l0.length : Int) - 1))
set_option maxHeartbeats 8000000 in
set_option maxRecDepth 100000 in
theorem soffitref01_less.calls (k : Nat) (A0 : Option Addr) (c0 : Nat) (l0 : List Int) (A1 : Option Addr) (c1 : Nat) (l1 : List Int) (r : Bool) (w : World) (hr0 : Kd.C (Kd.int .i64) w A0 l0.length l0) (hc0 : l0.length ≤ c0) (hr1 : Kd.C (Kd.int .i64) w A1 l1.length l1) (hc1 : l1.length ≤ c1) (h : soffitref01_less.f k l0 l1 = some r) :
  Calls Tryz.prog 49 #[.slice A0 l0.length c0, .slice A1 l1.length c1] w fun e w' => e = .returned (.bool r) ∧ Drawn0 w w' := by
 have HR0 := am hr0
 have HC0 := am hc0
 clear hr0 hc0
 have HR1 := am hr1
 have HC1 := am hc1
 clear hr1 hc1
 have H : (soffitref01_less.l0 k l0 l1 (wrap64 ((l0.length : Int) - 1))) = some r := h
 clear h
 have H' := am H
 clear H
 go_enter Tryz.func49, Tryz.ntmps49
 go_wp2
 repeat (go_quiet (fail); try go_wp2)
 (try simp only [Act.put, List.setIfInBounds_toArray, List.set_cons_succ, List.set_cons_zero])
 go_loopg [5] k (fun kq v5 w' => ∃ (x5_1 : Int), v5 = .int .i64 x5_1 ∧ Aside0 (soffitref01_less.l0 kq l0 l1 x5_1 = some r) ∧ Aside0 (kq ≤ k) ∧ Drawn0 w w')
 case atStart => exact ⟨(wrap64 ((l0.length : Int) - 1)), sz, H', ⟨Nat.le_refl _⟩, dz⟩
 case round =>
  clear H'
  try clear c1
  obtain ⟨x5_1, rfl, HA, HK1, ⟨m1, rfl⟩⟩ := hrel
  cases gk with
  | zero => exact absurd HA.out (by simp [soffitref01_less.l0])
  | succ k1 =>
   have H := HA.out
   clear HA
   simp only [soffitref01_less.l0] at H
   by_cases c3 : x5_1 ≥ 0
   ·rw [if_pos c3] at H
    have c3b0 : decide (0 ≤ x5_1) = true := decide_eq_true c3
    clear c3
    by_cases c4 : 0 ≤ x5_1
    ·rw [if_pos c4] at H
     have c4b0 : decide (0 ≤ x5_1) = true := decide_eq_true c4
     clear c4
     by_cases c5 : x5_1 < (l0.length : Int)
     ·rw [if_pos c5] at H
      have c5b0 : decide (x5_1 < (l0.length : Int)) = true := decide_eq_true c5
      clear c5
      by_cases c6 : x5_1 < (l1.length : Int)
      ·rw [if_pos c6] at H
       have c6b0 : decide (x5_1 < (l1.length : Int)) = true := decide_eq_true c6
       clear c6
       have HC7 := am H
       clear H
       have p992 : 0 ≤ (x5_1 : Int) := of_decide_eq_true tz
       have q992 : x5_1 < (l0.length : Int) := of_decide_eq_true tz
       obtain ⟨ad992, e992, hx992_0⟩ := Kd.at_int HR0.out x5_1 p992 q992
       cases e992
       replace p992 := eq_true p992
       replace q992 := eq_true q992
       have p993 : 0 ≤ (x5_1 : Int) := of_decide_eq_true tz
       have q993 : x5_1 < (l1.length : Int) := of_decide_eq_true tz
       obtain ⟨ad993, e993, hx993_0⟩ := Kd.at_int HR1.out x5_1 p993 q993
       cases e993
       replace p993 := eq_true p993
       replace q993 := eq_true q993
       go_upto_if 21 with (fail)
       repeat (go_quiet (fail); go_upto_if 21 with (fail))
       have H := HC7.out
       clear HC7
       clear hx992_0 hx993_0
       by_cases c8 : (rd l0 x5_1) = (rd l1 x5_1)
       ·replace H := ipe c8 H
        obtain ⟨H, c8b0, c8b1⟩ := H
        clear c8
        (first | rw [c8b0] | (simp only [i64_w, i32_w]; rw [c8b0]) | skip)
        have H' := am H
        clear H
        go_wp2
        repeat (go_quiet (fail); try go_wp2)
        go_roundg k1
        case measure => have := HK1.out; omega
        case rel => exact ⟨(wrap64 (x5_1 - 1)), sz, H', ⟨by have := HK1.out; omega⟩, dz⟩
       replace H := ine c8 H
       obtain ⟨H, c8b0, c8b1⟩ := H
       (first | rw [c8b0] | (simp only [i64_w, i32_w]; rw [c8b0]) | skip)
       obtain rfl := Option.some.inj H
       have p994 : 0 ≤ (x5_1 : Int) := of_decide_eq_true tz
       have q994 : x5_1 < (l0.length : Int) := of_decide_eq_true tz
       obtain ⟨ad994, e994, hx994_0⟩ := Kd.at_int HR0.out x5_1 p994 q994
       obtain rfl : ad992 = ad994 := (by injection e994)
       replace p994 := eq_true p994
       replace q994 := eq_true q994
       have p995 : 0 ≤ (x5_1 : Int) := of_decide_eq_true tz
       have q995 : x5_1 < (l1.length : Int) := of_decide_eq_true tz
       obtain ⟨ad995, e995, hx995_0⟩ := Kd.at_int HR1.out x5_1 p995 q995
       obtain rfl : ad993 = ad995 := (by injection e995)
       replace p995 := eq_true p995
       replace q995 := eq_true q995
       go_wp2
       repeat (go_quiet (fail); try go_wp2)
       go_ret
       exact ⟨sz, dz⟩
      rw [if_neg c6] at H
      exact absurd H (by simp)
     rw [if_neg c5] at H
     exact absurd H (by simp)
    rw [if_neg c4] at H
    exact absurd H (by simp)
   rw [if_neg c3] at H
   have c3b0 : decide (0 ≤ x5_1) = false := decide_eq_false c3
   clear c3
   obtain rfl := Option.some.inj H
   go_wp2
   repeat (go_quiet (fail); try go_wp2)
   go_ret
   exact ⟨sz, dz⟩
end Go.Proofs.YtgkemhgihbfmmaaGreatDoor.PA
end
section
namespace Go.Proofs.YtgkemhgihbfmmaaGreatDoor.PA
open Go.RowKit Go.Proofs.YtgkemhgihbfmmaaGreatDoorW.PrintWords Go.Proofs.YtgkemhgihbfmmaaGreatDoorW.PrintLast Go.Proofs.YtgkemhgihbfmmaaGreatDoorW.PrintMore
attribute [local go_sem] max2_int min2_int max_two min_two max_three min_three max_four min_four isSome_set str_gtr
set_option linter.unusedVariables false
set_option linter.unusedSimpArgs false
mutual
def soffitref01_Compare.j0 : Nat → Bool → Int → Int → Int → Int → Option (Int × Int)
 | 0, _, _, _, _, _ => none
 | k + 1, x14, x997000, x997001, x998000, x998001 => if x14 = true then (some (0, 2)) else (if x997000 < 0 then (soffitref01_Compare.j1 k (decide (x998000 ≥ 0)) x997000 x997001 x998000 x998001) else (soffitref01_Compare.j1 k false x997000 x997001 x998000 x998001))
def soffitref01_Compare.j1 : Nat → Bool → Int → Int → Int → Int → Option (Int × Int)
 | 0, _, _, _, _, _ => none
 | k + 1, x22, x997000, x997001, x998000, x998001 => if x22 = true then (some ((-1), 0)) else (if x997000 ≥ 0 then (soffitref01_Compare.j2 k (decide (x998000 < 0)) x997000 x997001 x998000 x998001) else (soffitref01_Compare.j2 k false x997000 x997001 x998000 x998001))
def soffitref01_Compare.j2 : Nat → Bool → Int → Int → Int → Int → Option (Int × Int)
 | 0, _, _, _, _, _ => none
 | k + 1, x30, x997000, x997001, x998000, x998001 => if x30 = true then (some (1, 0)) else (if x997000 < 0 then (soffitref01_Compare.j3 k (-1) x997000 x997001 x998000 x998001) else (soffitref01_Compare.j3 k 1 x997000 x997001 x998000 x998001))
def soffitref01_Compare.j3 : Nat → Int → Int → Int → Int → Int → Option (Int × Int)
 | 0, _, _, _, _, _ => none
 | k + 1, x6, x997000, x997001, x998000, x998001 => (soffitref01_long.f k x997000 x997001).bind fun t1000 => ((soffitref01_long.f k x998000 x998001).bind fun t1003 => ((soffitref01_less.f k t1000 t1003).bind fun t1006 => (if t1006 = true then (some (wrap64 (-x6), 0)) else ((soffitref01_long.f k x998000 x998001).bind fun t1007 => ((soffitref01_long.f k x997000 x997001).bind fun t1010 => ((soffitref01_less.f k t1007 t1010).bind fun t1013 => (if t1013 = true then (some (x6, 0)) else (some (0, 0)))))))))
end
def soffitref01_Compare.f (k : Nat) (a0_0 a0_1 a1_0 a1_1 : Int) : Option (Int × Int) := (soffitref01_Sound.f k a0_0 a0_1).bind fun t998 => (if t998 = true then ((soffitref01_Sound.f k a1_0 a1_1).bind fun t999 => (soffitref01_Compare.j0 k (!t999) a0_0 a0_1 a1_0 a1_1)) else (soffitref01_Compare.j0 k true a0_0 a0_1 a1_0 a1_1))
set_option maxHeartbeats 8000000 in
set_option maxRecDepth 100000 in
theorem soffitref01_Compare.calls (k : Nat) (a0_0 a0_1 a1_0 a1_1 r1 r2 : Int) (w : World) (h : soffitref01_Compare.f k a0_0 a0_1 a1_0 a1_1 = some (r1, r2)) :
  Calls Tryz.prog 21 #[.agg #[.int .i64 a0_0, .int .i64 a0_1], .agg #[.int .i64 a1_0, .int .i64 a1_1]] w fun e w' => e = .returned (.tuple #[.int .i64 r1, .int .i64 r2]) ∧ Below w.heap.size w w' := by
 have hu23 := Tryz.underlying23
 have HB := am (Below.refl w.heap.size w)
 have H : ((soffitref01_Sound.f k a0_0 a0_1).bind fun t998 => (if t998 = true then ((soffitref01_Sound.f k a1_0 a1_1).bind fun t999 => (soffitref01_Compare.j0 k (!t999) a0_0 a0_1 a1_0 a1_1)) else (soffitref01_Compare.j0 k true a0_0 a0_1 a1_0 a1_1))) = some (r1, r2) := h
 clear h
 have HC3 := am H
 clear H
 go_enter Tryz.func21, Tryz.ntmps21
 go_upto_region 1 with (first | ((with_reducible refine gate_dst (N := 2) rfl ?_); refine bev (#[.int .i64 a0_0, .int .i64 a0_1]) 23 ?_; intro gb996 hg w4 hbox hb; have BK996 := am (hbox); have GW996 := gs hg HB; have GE996 := GW996; replace HB := sb HB hb; clear hb hbox hg) | ((with_reducible refine gate_dst (N := 3) rfl ?_); refine bev (#[.int .i64 a1_0, .int .i64 a1_1]) 23 ?_; intro gb997 hg w5 hbox hb; have BK997 := am (hbox); have GW997 := gs hg HB; have GE997 := GW997; replace HB := sb HB hb; have NB996_997 := na hg BK996; have NB997_996 := nb hg BK996; replace BK996 := kb BK996 hb; clear hb hbox hg))
 (try simp only [Act.put, List.setIfInBounds_toArray, List.set_cons_zero, List.set_cons_succ])
 go_cut [14] (fun v14 wc => ∃ (kq : Nat) (x14_2 : Bool), v14 = .bool x14_2 ∧ Aside0 (soffitref01_Compare.j0 kq x14_2 a0_0 a0_1 a1_0 a1_1 = some (r1, r2)) ∧ Aside0 (kq ≤ k) ∧ Aside0 (wc.heap[gb996]? = some (.cells #[.int .i64 a0_0, .int .i64 a0_1] 23 (0, 0))) ∧ Aside0 (wc.heap[gb997]? = some (.cells #[.int .i64 a1_0, .int .i64 a1_1] 23 (0, 0))) ∧ Aside0 (Below w.heap.size w wc))
 case first =>
  have H := HC3.out
  clear HC3
  replace H := obe H
  obtain ⟨t998, A6, H⟩ := H
  by_cases c7 : t998 = true
  ·subst c7
   replace H := ift H
   replace H := obe H
   obtain ⟨t999, A8, H⟩ := H
   have H' := am H
   clear H
   have hnb9 := NB996_997.out
   have hnc9 := NB997_996.out
   obtain ⟨Z10_0, Z10_1, F10_0, F10_1⟩ := cz2 BK996.out
   go_wp2_with (first | ((with_reducible refine gate_callee (f := 23) rfl ?_); refine gl_ (some 8) Tryz.func23 (by kernel_rfl) #[.agg #[.int .i64 a0_0, .int .i64 a0_1]] rfl ?_; (with_reducible refine (soffitref01_Sound.calls k a0_0 a0_1 true _ A6.out).mono ?_); rintro e w11 ⟨rfl, hb⟩; refine ⟨_, rfl, ?_⟩; replace BK996 := kb BK996 hb; replace BK997 := kb BK997 hb; replace HB := sb HB hb; clear hb; obtain ⟨Z12_0, Z12_1, F12_0, F12_1⟩ := cz2 BK997.out) | (go_at_call 23; (with_reducible refine (soffitref01_Sound.calls k a1_0 a1_1 t999 _ A8.out).mono ?_); rintro e w13 ⟨rfl, hb⟩; replace BK996 := kb BK996 hb; replace BK997 := kb BK997 hb; replace HB := sb HB hb; clear hb))
   go_meet
   case rel => exact ⟨_, (!t999), sz, H', ⟨oz⟩, ⟨bk BK996.out⟩, ⟨bk BK997.out⟩, ⟨bz HB.out⟩⟩
  replace c7 := Bool.eq_false_iff.mpr c7
  subst c7
  replace H := iff_ H
  have H' := am H
  clear H
  have hnb14 := NB996_997.out
  have hnc14 := NB997_996.out
  obtain ⟨Z15_0, Z15_1, F15_0, F15_1⟩ := cz2 BK996.out
  go_wp2_with (first | ((with_reducible refine gate_callee (f := 23) rfl ?_); refine gl_ (some 8) Tryz.func23 (by kernel_rfl) #[.agg #[.int .i64 a0_0, .int .i64 a0_1]] rfl ?_; (with_reducible refine (soffitref01_Sound.calls k a0_0 a0_1 false _ A6.out).mono ?_); rintro e w16 ⟨rfl, hb⟩; refine ⟨_, rfl, ?_⟩; replace BK996 := kb BK996 hb; replace BK997 := kb BK997 hb; replace HB := sb HB hb; clear hb))
  go_meet
  case rel => exact ⟨_, (true), sz, H', ⟨oz⟩, ⟨bk BK996.out⟩, ⟨bk BK997.out⟩, ⟨bz HB.out⟩⟩
 case rest =>
  clear HC3
  skip
  obtain ⟨kq, x14_2, rfl, HA, HJ2, BK996, BK997, HB⟩ := hcut
  cases kq with
  | zero => exact absurd HA.out (by simp [soffitref01_Compare.j0])
  | succ kj2 =>
   have H := HA.out
   clear HA
   simp only [soffitref01_Compare.j0] at H
   by_cases c17 : x14_2 = true
   ·subst c17
    replace H := ift H
    simp only [Option.some.injEq, Prod.mk.injEq] at H
    obtain ⟨rfl, rfl⟩ := H
    go_wp2
    go_ret2
    exact ⟨az, bz HB.out⟩
   replace c17 := Bool.eq_false_iff.mpr c17
   subst c17
   replace H := iff_ H
   have HC18 := am H
   clear H
   go_upto_region 3 with (fail)
   go_cut [22] (fun v22 wc => ∃ (kq : Nat) (x22_17 : Bool), v22 = .bool x22_17 ∧ Aside0 (soffitref01_Compare.j1 kq x22_17 a0_0 a0_1 a1_0 a1_1 = some (r1, r2)) ∧ Aside0 (kq ≤ kj2) ∧ Aside0 (wc.heap[gb996]? = some (.cells #[.int .i64 a0_0, .int .i64 a0_1] 23 (0, 0))) ∧ Aside0 (wc.heap[gb997]? = some (.cells #[.int .i64 a1_0, .int .i64 a1_1] 23 (0, 0))) ∧ Aside0 (Below w.heap.size w wc))
   case first =>
    have H := HC18.out
    clear HC18
    by_cases c19 : a0_0 < 0
    ·rw [if_pos c19] at H
     have c19b0 : decide (a0_0 < 0) = true := decide_eq_true c19
     clear c19
     (first | rw [c19b0] | (simp only [i64_w, i32_w]; rw [c19b0]) | skip)
     have H' := am H
     clear H
     have hnb20 := NB996_997.out
     have hnc20 := NB997_996.out
     obtain ⟨Z21_0, Z21_1, F21_0, F21_1⟩ := cz2 BK996.out
     obtain ⟨Z22_0, Z22_1, F22_0, F22_1⟩ := cz2 BK997.out
     go_wp2
     go_meet
     case rel => exact ⟨_, (decide (a1_0 ≥ 0)), sz, H', ⟨oa HJ2⟩, ⟨bk BK996.out⟩, ⟨bk BK997.out⟩, ⟨bz HB.out⟩⟩
    rw [if_neg c19] at H
    have c19b0 : decide (a0_0 < 0) = false := decide_eq_false c19
    clear c19
    (first | rw [c19b0] | (simp only [i64_w, i32_w]; rw [c19b0]) | skip)
    have H' := am H
    clear H
    have hnb23 := NB996_997.out
    have hnc23 := NB997_996.out
    obtain ⟨Z24_0, Z24_1, F24_0, F24_1⟩ := cz2 BK996.out
    go_wp2
    go_meet
    case rel => exact ⟨_, (false), sz, H', ⟨oa HJ2⟩, ⟨bk BK996.out⟩, ⟨bk BK997.out⟩, ⟨bz HB.out⟩⟩
   case rest =>
    clear HC18
    try clear c7; try clear c17; try clear Z10_0; try clear Z10_1; try clear Z12_0; try clear Z12_1; try clear Z15_0; try clear Z15_1; try clear F10_0; try clear F10_1; try clear F12_0; try clear F12_1; try clear F15_0; try clear F15_1
    obtain ⟨kq, x22_17, rfl, HA, HJ17, BK996, BK997, HB⟩ := hcut
    cases kq with
    | zero => exact absurd HA.out (by simp [soffitref01_Compare.j1])
    | succ kj17 =>
     have H := HA.out
     clear HA
     simp only [soffitref01_Compare.j1] at H
     by_cases c25 : x22_17 = true
     ·subst c25
      replace H := ift H
      simp only [Option.some.injEq, Prod.mk.injEq] at H
      obtain ⟨rfl, rfl⟩ := H
      go_wp2
      go_ret2
      exact ⟨az, bz HB.out⟩
     replace c25 := Bool.eq_false_iff.mpr c25
     subst c25
     replace H := iff_ H
     have HC26 := am H
     clear H
     go_upto_region 5 with (fail)
     go_cut [30] (fun v30 wc => ∃ (kq : Nat) (x30_25 : Bool), v30 = .bool x30_25 ∧ Aside0 (soffitref01_Compare.j2 kq x30_25 a0_0 a0_1 a1_0 a1_1 = some (r1, r2)) ∧ Aside0 (kq ≤ kj17) ∧ Aside0 (wc.heap[gb996]? = some (.cells #[.int .i64 a0_0, .int .i64 a0_1] 23 (0, 0))) ∧ Aside0 (wc.heap[gb997]? = some (.cells #[.int .i64 a1_0, .int .i64 a1_1] 23 (0, 0))) ∧ Aside0 (Below w.heap.size w wc))
     case first =>
      have H := HC26.out
      clear HC26
      by_cases c27 : a0_0 ≥ 0
      ·rw [if_pos c27] at H
       have c27b0 : decide (0 ≤ a0_0) = true := decide_eq_true c27
       clear c27
       (first | rw [c27b0] | (simp only [i64_w, i32_w]; rw [c27b0]) | skip)
       have H' := am H
       clear H
       have hnb28 := NB996_997.out
       have hnc28 := NB997_996.out
       obtain ⟨Z29_0, Z29_1, F29_0, F29_1⟩ := cz2 BK996.out
       obtain ⟨Z30_0, Z30_1, F30_0, F30_1⟩ := cz2 BK997.out
       go_wp2
       go_meet
       case rel => exact ⟨_, (decide (a1_0 < 0)), sz, H', ⟨ob HJ2 HJ17⟩, ⟨bk BK996.out⟩, ⟨bk BK997.out⟩, ⟨bz HB.out⟩⟩
      rw [if_neg c27] at H
      have c27b0 : decide (0 ≤ a0_0) = false := decide_eq_false c27
      clear c27
      (first | rw [c27b0] | (simp only [i64_w, i32_w]; rw [c27b0]) | skip)
      have H' := am H
      clear H
      have hnb31 := NB996_997.out
      have hnc31 := NB997_996.out
      obtain ⟨Z32_0, Z32_1, F32_0, F32_1⟩ := cz2 BK996.out
      go_wp2
      go_meet
      case rel => exact ⟨_, (false), sz, H', ⟨ob HJ2 HJ17⟩, ⟨bk BK996.out⟩, ⟨bk BK997.out⟩, ⟨bz HB.out⟩⟩
     case rest =>
      clear HC26
      try clear c7; try clear c17; try clear c19; try clear c19b0; try clear c25; try clear Z10_0; try clear Z10_1; try clear Z12_0; try clear Z12_1; try clear Z15_0; try clear Z15_1; try clear Z21_0; try clear Z21_1; try clear Z22_0; try clear Z22_1; try clear Z24_0; try clear Z24_1; try clear F10_0; try clear F10_1; try clear F12_0; try clear F12_1; try clear F15_0; try clear F15_1; try clear F21_0; try clear F21_1; try clear F22_0; try clear F22_1; try clear F24_0; try clear F24_1
      obtain ⟨kq, x30_25, rfl, HA, HJ25, BK996, BK997, HB⟩ := hcut
      cases kq with
      | zero => exact absurd HA.out (by simp [soffitref01_Compare.j2])
      | succ kj25 =>
       have H := HA.out
       clear HA
       simp only [soffitref01_Compare.j2] at H
       by_cases c33 : x30_25 = true
       ·subst c33
        replace H := ift H
        simp only [Option.some.injEq, Prod.mk.injEq] at H
        obtain ⟨rfl, rfl⟩ := H
        go_wp2
        go_ret2
        exact ⟨az, bz HB.out⟩
       replace c33 := Bool.eq_false_iff.mpr c33
       subst c33
       replace H := iff_ H
       have HC34 := am H
       clear H
       have hnb35 := NB996_997.out
       have hnc35 := NB997_996.out
       obtain ⟨Z36_0, Z36_1, F36_0, F36_1⟩ := cz2 BK996.out
       go_upto_if 33 with (fail)
       go_cut [6] (fun v6 wc => ∃ (kq : Nat) (x6_33 : Int), v6 = .int .i64 x6_33 ∧ Aside0 (soffitref01_Compare.j3 kq x6_33 a0_0 a0_1 a1_0 a1_1 = some (r1, r2)) ∧ Aside0 (kq ≤ kj25) ∧ Aside0 (wc.heap[gb996]? = some (.cells #[.int .i64 a0_0, .int .i64 a0_1] 23 (0, 0))) ∧ Aside0 (wc.heap[gb997]? = some (.cells #[.int .i64 a1_0, .int .i64 a1_1] 23 (0, 0))) ∧ Aside0 (Below w.heap.size w wc))
       case first =>
        have H := HC34.out
        clear HC34
        by_cases c37 : a0_0 < 0
        ·rw [if_pos c37] at H
         have c37b0 : decide (a0_0 < 0) = true := decide_eq_true c37
         clear c37
         (first | rw [c37b0] | (simp only [i64_w, i32_w]; rw [c37b0]) | skip)
         have H' := am H
         clear H
         go_wp2
         go_meet
         case rel => exact ⟨_, ((-1)), sz, H', ⟨by have := HJ2.out; have := HJ17.out; have := HJ25.out; first | omega | exact Nat.le_refl _⟩, ⟨bk BK996.out⟩, ⟨bk BK997.out⟩, ⟨bz HB.out⟩⟩
        rw [if_neg c37] at H
        have c37b0 : decide (a0_0 < 0) = false := decide_eq_false c37
        clear c37
        (first | rw [c37b0] | (simp only [i64_w, i32_w]; rw [c37b0]) | skip)
        have H' := am H
        clear H
        go_wp2
        go_meet
        case rel => exact ⟨_, (1), sz, H', ⟨by have := HJ2.out; have := HJ17.out; have := HJ25.out; first | omega | exact Nat.le_refl _⟩, ⟨bk BK996.out⟩, ⟨bk BK997.out⟩, ⟨bz HB.out⟩⟩
       case rest =>
        clear HC34
        try clear c7; try clear c17; try clear c19; try clear c19b0; try clear c25; try clear c27; try clear c27b0; try clear c33; try clear Z10_0; try clear Z10_1; try clear Z12_0; try clear Z12_1; try clear Z15_0; try clear Z15_1; try clear Z21_0; try clear Z21_1; try clear Z22_0; try clear Z22_1; try clear Z24_0; try clear Z24_1; try clear Z29_0; try clear Z29_1; try clear Z30_0; try clear Z30_1; try clear Z32_0; try clear Z32_1; try clear Z36_0; try clear Z36_1; try clear F10_0; try clear F10_1; try clear F12_0; try clear F12_1; try clear F15_0; try clear F15_1; try clear F21_0; try clear F21_1; try clear F22_0; try clear F22_1; try clear F24_0; try clear F24_1; try clear F29_0; try clear F29_1; try clear F30_0; try clear F30_1; try clear F32_0; try clear F32_1; try clear F36_0; try clear F36_1
        obtain ⟨kq, x6_33, rfl, HA, HJ33, BK996, BK997, HB⟩ := hcut
        cases kq with
        | zero => exact absurd HA.out (by simp [soffitref01_Compare.j3])
        | succ kj33 =>
         have H := HA.out
         clear HA
         simp only [soffitref01_Compare.j3] at H
         replace H := obe H
         obtain ⟨t1000, A38, H⟩ := H
         replace H := obe H
         obtain ⟨t1003, A39, H⟩ := H
         replace H := obe H
         obtain ⟨t1006, A40, H⟩ := H
         by_cases c41 : t1006 = true
         ·subst c41
          replace H := ift H
          simp only [Option.some.injEq, Prod.mk.injEq] at H
          obtain ⟨rfl, rfl⟩ := H
          try go_wp2
          replace BK996 := am (blk_drew BK996.out)
          replace BK997 := am (blk_drew BK997.out)
          replace HB := am (below_drew1 HB.out)
          refine start_ (n := 5) (S := fun w' => w'.cell? ⟨gb996, 0, none⟩ = some (.int .i64 a0_0) ∧ w'.cell? ⟨gb996, 1, none⟩ = some (.int .i64 a0_1) ∧ w'.cell? ⟨gb997, 0, none⟩ = some (.int .i64 a1_0) ∧ w'.cell? ⟨gb997, 1, none⟩ = some (.int .i64 a1_1)) (ds := []) #[false, false, false, false, false] (by kernel_rfl) rfl rfl ⟨(blk_cell BK996.out 0).trans rfl, (blk_cell BK996.out 1).trans rfl, (blk_cell BK997.out 0).trans rfl, (blk_cell BK997.out 1).trans rfl⟩ (fun hHeld => ?_)
          generalize wc.drew = w42 at BK996 BK997 HB hHeld ⊢
          refine ta 0 (some 34) (bts 5 1) (by kernel_rfl) hHeld ?_
          refine ta 2 (some 36) (bts 5 5) (by kernel_rfl) hHeld ?_
          refine one_ (i := 1) (N := some 35) (bts 5 7) rfl rfl (by kernel_rfl) (by decide) (fun K hK => ?_)
          refine goes_ Tryz.func46 (by kernel_rfl) rfl #[.agg #[.int .i64 a0_0, .int .i64 a0_1]] (by rfl) rfl rfl lz ?_
          with_reducible refine (soffitref01_long.calls kj33 a0_0 a0_1 t1000 _ A38.out).mono ?_
          rintro e w43 ⟨v1001, rfl, ho0, hb⟩
          refine ⟨_, rfl, ?_⟩
          have HO1002 := am (Kd.R_lower ho0 (below_size (bz HB.out)))
          replace BK996 := kb BK996 hb
          replace BK997 := kb BK997 hb
          replace HB := sb HB hb
          (try clear hb)
          (try clear hb2)
          (try clear hk)
          (try clear hi)
          (try clear ho0)
          refine hK.out _ _ ⟨(blk_cell BK996.out 0).trans rfl, (blk_cell BK996.out 1).trans rfl, (blk_cell BK997.out 0).trans rfl, (blk_cell BK997.out 1).trans rfl⟩ (fun hHeld => ?_)
          clear hK K
          refine norm_ (a' := ?_) ?_ ?_
          rotate_left
          ·show Act.put _ (some 35) _ = _
           simp only [Act.put, List.setIfInBounds_toArray, List.set_cons_zero, List.set_cons_succ, i64_w, i32_w]
           rfl
          refine one_ (i := 3) (N := some 37) (bts 5 15) rfl rfl (by kernel_rfl) (by decide) (fun K hK => ?_)
          refine goes_ Tryz.func46 (by kernel_rfl) rfl #[.agg #[.int .i64 a1_0, .int .i64 a1_1]] (by rfl) rfl rfl lz ?_
          with_reducible refine (soffitref01_long.calls kj33 a1_0 a1_1 t1003 _ A39.out).mono ?_
          rintro e w44 ⟨v1004, rfl, ho0, hb⟩
          refine ⟨_, rfl, ?_⟩
          have HO1005 := am (Kd.R_lower (Kd.R_new' ho0 (Kd.R_lt (rr HO1002.out))) (below_size (bz HB.out)))
          replace HO1002 := am (Kd.R_elder' (rr HO1002.out) (Kd.R_base ho0) hb)
          replace BK996 := kb BK996 hb
          replace BK997 := kb BK997 hb
          replace HB := sb HB hb
          (try clear hb)
          (try clear hb2)
          (try clear hk)
          (try clear hi)
          (try clear ho0)
          obtain ⟨Ao45, co45, eo45⟩ := Kd.R_slice HO1002.out
          (first | subst eo45 | (injection eo45 with f1_ f2_ f3_; have f4_ := f1_.symm; have f5_ := f3_.symm; clear f1_ f2_ f3_; subst f4_; subst f5_))
          obtain ⟨Ao46, co46, eo46⟩ := Kd.R_slice HO1005.out
          (first | subst eo46 | (injection eo46 with f1_ f2_ f3_; have f4_ := f1_.symm; have f5_ := f3_.symm; clear f1_ f2_ f3_; subst f4_; subst f5_))
          refine hK.out _ _ ⟨(blk_cell BK996.out 0).trans rfl, (blk_cell BK996.out 1).trans rfl, (blk_cell BK997.out 0).trans rfl, (blk_cell BK997.out 1).trans rfl⟩ (fun hHeld => ?_)
          clear hK K
          refine norm_ (a' := ?_) ?_ ?_
          rotate_left
          ·show Act.put _ (some 37) _ = _
           simp only [Act.put, List.setIfInBounds_toArray, List.set_cons_zero, List.set_cons_succ, i64_w, i32_w]
           rfl
          refine one_ (i := 4) (N := some 38) (bts 5 31) rfl rfl (by kernel_rfl) (by decide) (fun K hK => ?_)
          refine goes_ Tryz.func49 (by kernel_rfl) rfl #[.slice Ao45 t1000.length co45, .slice Ao46 t1003.length co46] (by rfl) rfl rfl lz ?_
          with_reducible refine (soffitref01_less.calls kj33 _ _ t1000 _ _ t1003 true _ ?side1 ?side2 ?side3 ?side4 A40.out).mono ?_
          (case side1 => repeat (first | exact (Kd.R_reads' HO1002.out).2.2 | (with_reducible refine Kd.C_alloc ?_ _) | (with_reducible refine Kd.C_drewN ?_ _) | (with_reducible refine Kd.C_drew ?_)))
          (case side2 => exact (Kd.R_reads' HO1002.out).2.1)
          (case side3 => repeat (first | exact (Kd.R_reads' HO1005.out).2.2 | (with_reducible refine Kd.C_alloc ?_ _) | (with_reducible refine Kd.C_drewN ?_ _) | (with_reducible refine Kd.C_drew ?_)))
          (case side4 => exact (Kd.R_reads' HO1005.out).2.1)
          rintro e w' ⟨rfl, ⟨nd, rfl⟩⟩
          refine ⟨_, rfl, ?_⟩
          refine hK.out _ _ ⟨(blk_cell BK996.out 0).trans rfl, (blk_cell BK996.out 1).trans rfl, (blk_cell BK997.out 0).trans rfl, (blk_cell BK997.out 1).trans rfl⟩ (fun hHeld => ?_)
          clear hK K
          refine norm_ (a' := ?_) ?_ ?_
          rotate_left
          ·show Act.put _ (some 38) _ = _
           simp only [Act.put, List.setIfInBounds_toArray, List.set_cons_zero, List.set_cons_succ, i64_w, i32_w]
           rfl
          refine done_ (by kernel_rfl) ?_
          try go_wp2
          go_ret2
          exact ⟨az, bz HB.out⟩
         replace c41 := Bool.eq_false_iff.mpr c41
         subst c41
         replace H := iff_ H
         replace H := obe H
         obtain ⟨t1007, A47, H⟩ := H
         replace H := obe H
         obtain ⟨t1010, A48, H⟩ := H
         replace H := obe H
         obtain ⟨t1013, A49, H⟩ := H
         by_cases c50 : t1013 = true
         ·subst c50
          replace H := ift H
          simp only [Option.some.injEq, Prod.mk.injEq] at H
          obtain ⟨rfl, rfl⟩ := H
          try go_wp2
          replace BK996 := am (blk_drew BK996.out)
          replace BK997 := am (blk_drew BK997.out)
          replace HB := am (below_drew1 HB.out)
          refine start_ (n := 5) (S := fun w' => w'.cell? ⟨gb996, 0, none⟩ = some (.int .i64 a0_0) ∧ w'.cell? ⟨gb996, 1, none⟩ = some (.int .i64 a0_1) ∧ w'.cell? ⟨gb997, 0, none⟩ = some (.int .i64 a1_0) ∧ w'.cell? ⟨gb997, 1, none⟩ = some (.int .i64 a1_1)) (ds := []) #[false, false, false, false, false] (by kernel_rfl) rfl rfl ⟨(blk_cell BK996.out 0).trans rfl, (blk_cell BK996.out 1).trans rfl, (blk_cell BK997.out 0).trans rfl, (blk_cell BK997.out 1).trans rfl⟩ (fun hHeld => ?_)
          generalize wc.drew = w51 at BK996 BK997 HB hHeld ⊢
          refine ta 0 (some 34) (bts 5 1) (by kernel_rfl) hHeld ?_
          refine ta 2 (some 36) (bts 5 5) (by kernel_rfl) hHeld ?_
          refine one_ (i := 1) (N := some 35) (bts 5 7) rfl rfl (by kernel_rfl) (by decide) (fun K hK => ?_)
          refine goes_ Tryz.func46 (by kernel_rfl) rfl #[.agg #[.int .i64 a0_0, .int .i64 a0_1]] (by rfl) rfl rfl lz ?_
          with_reducible refine (soffitref01_long.calls kj33 a0_0 a0_1 t1000 _ A38.out).mono ?_
          rintro e w52 ⟨v1001, rfl, ho0, hb⟩
          refine ⟨_, rfl, ?_⟩
          have HO1002 := am (Kd.R_lower ho0 (below_size (bz HB.out)))
          replace BK996 := kb BK996 hb
          replace BK997 := kb BK997 hb
          replace HB := sb HB hb
          (try clear hb)
          (try clear hb2)
          (try clear hk)
          (try clear hi)
          (try clear ho0)
          refine hK.out _ _ ⟨(blk_cell BK996.out 0).trans rfl, (blk_cell BK996.out 1).trans rfl, (blk_cell BK997.out 0).trans rfl, (blk_cell BK997.out 1).trans rfl⟩ (fun hHeld => ?_)
          clear hK K
          refine norm_ (a' := ?_) ?_ ?_
          rotate_left
          ·show Act.put _ (some 35) _ = _
           simp only [Act.put, List.setIfInBounds_toArray, List.set_cons_zero, List.set_cons_succ, i64_w, i32_w]
           rfl
          refine one_ (i := 3) (N := some 37) (bts 5 15) rfl rfl (by kernel_rfl) (by decide) (fun K hK => ?_)
          refine goes_ Tryz.func46 (by kernel_rfl) rfl #[.agg #[.int .i64 a1_0, .int .i64 a1_1]] (by rfl) rfl rfl lz ?_
          with_reducible refine (soffitref01_long.calls kj33 a1_0 a1_1 t1003 _ A39.out).mono ?_
          rintro e w53 ⟨v1004, rfl, ho0, hb⟩
          refine ⟨_, rfl, ?_⟩
          have HO1005 := am (Kd.R_lower (Kd.R_new' ho0 (Kd.R_lt (rr HO1002.out))) (below_size (bz HB.out)))
          replace HO1002 := am (Kd.R_elder' (rr HO1002.out) (Kd.R_base ho0) hb)
          replace BK996 := kb BK996 hb
          replace BK997 := kb BK997 hb
          replace HB := sb HB hb
          (try clear hb)
          (try clear hb2)
          (try clear hk)
          (try clear hi)
          (try clear ho0)
          obtain ⟨Ao54, co54, eo54⟩ := Kd.R_slice HO1002.out
          (first | subst eo54 | (injection eo54 with f1_ f2_ f3_; have f4_ := f1_.symm; have f5_ := f3_.symm; clear f1_ f2_ f3_; subst f4_; subst f5_))
          obtain ⟨Ao55, co55, eo55⟩ := Kd.R_slice HO1005.out
          (first | subst eo55 | (injection eo55 with f1_ f2_ f3_; have f4_ := f1_.symm; have f5_ := f3_.symm; clear f1_ f2_ f3_; subst f4_; subst f5_))
          refine hK.out _ _ ⟨(blk_cell BK996.out 0).trans rfl, (blk_cell BK996.out 1).trans rfl, (blk_cell BK997.out 0).trans rfl, (blk_cell BK997.out 1).trans rfl⟩ (fun hHeld => ?_)
          clear hK K
          refine norm_ (a' := ?_) ?_ ?_
          rotate_left
          ·show Act.put _ (some 37) _ = _
           simp only [Act.put, List.setIfInBounds_toArray, List.set_cons_zero, List.set_cons_succ, i64_w, i32_w]
           rfl
          refine one_ (i := 4) (N := some 38) (bts 5 31) rfl rfl (by kernel_rfl) (by decide) (fun K hK => ?_)
          refine goes_ Tryz.func49 (by kernel_rfl) rfl #[.slice Ao54 t1000.length co54, .slice Ao55 t1003.length co55] (by rfl) rfl rfl lz ?_
          with_reducible refine (soffitref01_less.calls kj33 _ _ t1000 _ _ t1003 false _ ?side1 ?side2 ?side3 ?side4 A40.out).mono ?_
          (case side1 => repeat (first | exact (Kd.R_reads' HO1002.out).2.2 | (with_reducible refine Kd.C_alloc ?_ _) | (with_reducible refine Kd.C_drewN ?_ _) | (with_reducible refine Kd.C_drew ?_)))
          (case side2 => exact (Kd.R_reads' HO1002.out).2.1)
          (case side3 => repeat (first | exact (Kd.R_reads' HO1005.out).2.2 | (with_reducible refine Kd.C_alloc ?_ _) | (with_reducible refine Kd.C_drewN ?_ _) | (with_reducible refine Kd.C_drew ?_)))
          (case side4 => exact (Kd.R_reads' HO1005.out).2.1)
          rintro e w' ⟨rfl, ⟨nd, rfl⟩⟩
          refine ⟨_, rfl, ?_⟩
          refine hK.out _ _ ⟨(blk_cell BK996.out 0).trans rfl, (blk_cell BK996.out 1).trans rfl, (blk_cell BK997.out 0).trans rfl, (blk_cell BK997.out 1).trans rfl⟩ (fun hHeld => ?_)
          clear hK K
          refine norm_ (a' := ?_) ?_ ?_
          rotate_left
          ·show Act.put _ (some 38) _ = _
           simp only [Act.put, List.setIfInBounds_toArray, List.set_cons_zero, List.set_cons_succ, i64_w, i32_w]
           rfl
          refine done_ (by kernel_rfl) ?_
          try go_wp2
          (try (rw [drewN_self w53]; generalize hq_ : World.drewN w53 _ = w53; have n0_ : Aside0 (Kd.R (Kd.int .i64) 3 w53 w.heap.size (fun k_ => some k_ ≠ (.slice Ao55 t1003.length co55 : Value).ownBlock) (.slice Ao54 t1000.length co54) t1000) := ⟨by rw [← hq_]; exact (by (with_reducible repeat (first | apply Kd.R_alloc | apply Kd.R_drewN | apply Kd.R_drew)); exact Kd.R_mono HO1002.out (fun _ hk => hk.2))⟩; have n1_ : Aside0 (Kd.R (Kd.int .i64) 3 w53 w.heap.size (fun k_ => some k_ ≠ (.slice Ao54 t1000.length co54 : Value).ownBlock) (.slice Ao55 t1003.length co55) t1003) := ⟨by rw [← hq_]; exact (by (with_reducible repeat (first | apply Kd.R_alloc | apply Kd.R_drewN | apply Kd.R_drew)); exact Kd.R_mono HO1005.out (fun _ hk => hk.2))⟩; have n2_ : Aside0 (w53.heap[gb996]? = some (.cells #[.int .i64 a0_0, .int .i64 a0_1] 23 (0, 0))) := ⟨by rw [← hq_]; exact (bk BK996.out)⟩; have n3_ : Aside0 (w53.heap[gb997]? = some (.cells #[.int .i64 a1_0, .int .i64 a1_1] 23 (0, 0))) := ⟨by rw [← hq_]; exact (bk BK997.out)⟩; have n4_ : Aside0 (Below w.heap.size w w53) := ⟨by rw [← hq_]; exact (bz HB.out)⟩; clear HO1002 HO1005 BK996 BK997 HB hq_; have HO1002 := n0_; have HO1005 := n1_; have BK996 := n2_; have BK997 := n3_; have HB := n4_; clear n0_ n1_ n2_ n3_ n4_))
          (try (have hcu996_0 : w53.cell? ⟨gb996, 0, none⟩ = some (.int .i64 a0_0) := (blk_cell BK996.out 0).trans rfl))
          (try (have hcu996_1 : w53.cell? ⟨gb996, 1, none⟩ = some (.int .i64 a0_1) := (blk_cell BK996.out 1).trans rfl))
          (try (have hcu997_0 : w53.cell? ⟨gb997, 0, none⟩ = some (.int .i64 a1_0) := (blk_cell BK997.out 0).trans rfl))
          (try (have hcu997_1 : w53.cell? ⟨gb997, 1, none⟩ = some (.int .i64 a1_1) := (blk_cell BK997.out 1).trans rfl))
          replace HO1002 := am (Kd.R_drew HO1002.out)
          replace HO1005 := am (Kd.R_drew HO1005.out)
          replace BK996 := am (blk_drew BK996.out)
          replace BK997 := am (blk_drew BK997.out)
          replace HB := am (below_drew1 HB.out)
          refine start_ (n := 5) (S := fun w' => w'.cell? ⟨gb997, 0, none⟩ = some (.int .i64 a1_0) ∧ w'.cell? ⟨gb997, 1, none⟩ = some (.int .i64 a1_1) ∧ w'.cell? ⟨gb996, 0, none⟩ = some (.int .i64 a0_0) ∧ w'.cell? ⟨gb996, 1, none⟩ = some (.int .i64 a0_1)) (ds := []) #[false, false, false, false, false] (by kernel_rfl) rfl rfl ⟨(blk_cell BK997.out 0).trans rfl, (blk_cell BK997.out 1).trans rfl, (blk_cell BK996.out 0).trans rfl, (blk_cell BK996.out 1).trans rfl⟩ (fun hHeld => ?_)
          generalize w53.drew = w56 at HO1002 HO1005 BK996 BK997 HB hHeld ⊢
          refine ta 0 (some 41) (bts 5 1) (by kernel_rfl) hHeld ?_
          refine ta 2 (some 43) (bts 5 5) (by kernel_rfl) hHeld ?_
          refine one_ (i := 1) (N := some 42) (bts 5 7) rfl rfl (by kernel_rfl) (by decide) (fun K hK => ?_)
          refine goes_ Tryz.func46 (by kernel_rfl) rfl #[.agg #[.int .i64 a1_0, .int .i64 a1_1]] (by rfl) rfl rfl lz ?_
          with_reducible refine (soffitref01_long.calls kj33 a1_0 a1_1 t1007 _ A47.out).mono ?_
          rintro e w57 ⟨v1008, rfl, ho0, hb⟩
          refine ⟨_, rfl, ?_⟩
          have HO1009 := am (Kd.R_lower (Kd.R_new' (Kd.R_new' ho0 (Kd.R_lt (rr HO1002.out))) (Kd.R_lt (rr HO1005.out))) (below_size (bz HB.out)))
          replace HO1002 := am (Kd.R_elder' (rr HO1002.out) (Kd.R_base ho0) hb)
          replace HO1005 := am (Kd.R_elder' (rr HO1005.out) (Kd.R_base ho0) hb)
          replace BK996 := kb BK996 hb
          replace BK997 := kb BK997 hb
          replace HB := sb HB hb
          (try clear hb)
          (try clear hb2)
          (try clear hk)
          (try clear hi)
          (try clear ho0)
          refine hK.out _ _ ⟨(blk_cell BK997.out 0).trans rfl, (blk_cell BK997.out 1).trans rfl, (blk_cell BK996.out 0).trans rfl, (blk_cell BK996.out 1).trans rfl⟩ (fun hHeld => ?_)
          clear hK K
          refine norm_ (a' := ?_) ?_ ?_
          rotate_left
          ·show Act.put _ (some 42) _ = _
           simp only [Act.put, List.setIfInBounds_toArray, List.set_cons_zero, List.set_cons_succ, i64_w, i32_w]
           rfl
          refine one_ (i := 3) (N := some 44) (bts 5 15) rfl rfl (by kernel_rfl) (by decide) (fun K hK => ?_)
          refine goes_ Tryz.func46 (by kernel_rfl) rfl #[.agg #[.int .i64 a0_0, .int .i64 a0_1]] (by rfl) rfl rfl lz ?_
          with_reducible refine (soffitref01_long.calls kj33 a0_0 a0_1 t1010 _ A48.out).mono ?_
          rintro e w58 ⟨v1011, rfl, ho0, hb⟩
          refine ⟨_, rfl, ?_⟩
          have HO1012 := am (Kd.R_lower (Kd.R_new' (Kd.R_new' (Kd.R_new' ho0 (Kd.R_lt (rr HO1002.out))) (Kd.R_lt (rr HO1005.out))) (Kd.R_lt (rr HO1009.out))) (below_size (bz HB.out)))
          replace HO1002 := am (Kd.R_elder' (rr HO1002.out) (Kd.R_base ho0) hb)
          replace HO1005 := am (Kd.R_elder' (rr HO1005.out) (Kd.R_base ho0) hb)
          replace HO1009 := am (Kd.R_elder' (rr HO1009.out) (Kd.R_base ho0) hb)
          replace BK996 := kb BK996 hb
          replace BK997 := kb BK997 hb
          replace HB := sb HB hb
          (try clear hb)
          (try clear hb2)
          (try clear hk)
          (try clear hi)
          (try clear ho0)
          obtain ⟨Ao59, co59, eo59⟩ := Kd.R_slice HO1009.out
          (first | subst eo59 | (injection eo59 with f1_ f2_ f3_; have f4_ := f1_.symm; have f5_ := f3_.symm; clear f1_ f2_ f3_; subst f4_; subst f5_))
          obtain ⟨Ao60, co60, eo60⟩ := Kd.R_slice HO1012.out
          (first | subst eo60 | (injection eo60 with f1_ f2_ f3_; have f4_ := f1_.symm; have f5_ := f3_.symm; clear f1_ f2_ f3_; subst f4_; subst f5_))
          refine hK.out _ _ ⟨(blk_cell BK997.out 0).trans rfl, (blk_cell BK997.out 1).trans rfl, (blk_cell BK996.out 0).trans rfl, (blk_cell BK996.out 1).trans rfl⟩ (fun hHeld => ?_)
          clear hK K
          refine norm_ (a' := ?_) ?_ ?_
          rotate_left
          ·show Act.put _ (some 44) _ = _
           simp only [Act.put, List.setIfInBounds_toArray, List.set_cons_zero, List.set_cons_succ, i64_w, i32_w]
           rfl
          refine one_ (i := 4) (N := some 45) (bts 5 31) rfl rfl (by kernel_rfl) (by decide) (fun K hK => ?_)
          refine goes_ Tryz.func49 (by kernel_rfl) rfl #[.slice Ao59 t1007.length co59, .slice Ao60 t1010.length co60] (by rfl) rfl rfl lz ?_
          with_reducible refine (soffitref01_less.calls kj33 _ _ t1007 _ _ t1010 true _ ?side1 ?side2 ?side3 ?side4 A49.out).mono ?_
          (case side1 => repeat (first | exact (Kd.R_reads' HO1009.out).2.2 | (with_reducible refine Kd.C_alloc ?_ _) | (with_reducible refine Kd.C_drewN ?_ _) | (with_reducible refine Kd.C_drew ?_)))
          (case side2 => exact (Kd.R_reads' HO1009.out).2.1)
          (case side3 => repeat (first | exact (Kd.R_reads' HO1012.out).2.2 | (with_reducible refine Kd.C_alloc ?_ _) | (with_reducible refine Kd.C_drewN ?_ _) | (with_reducible refine Kd.C_drew ?_)))
          (case side4 => exact (Kd.R_reads' HO1012.out).2.1)
          rintro e w' ⟨rfl, ⟨nd, rfl⟩⟩
          refine ⟨_, rfl, ?_⟩
          refine hK.out _ _ ⟨(blk_cell BK997.out 0).trans rfl, (blk_cell BK997.out 1).trans rfl, (blk_cell BK996.out 0).trans rfl, (blk_cell BK996.out 1).trans rfl⟩ (fun hHeld => ?_)
          clear hK K
          refine norm_ (a' := ?_) ?_ ?_
          rotate_left
          ·show Act.put _ (some 45) _ = _
           simp only [Act.put, List.setIfInBounds_toArray, List.set_cons_zero, List.set_cons_succ, i64_w, i32_w]
           rfl
          refine done_ (by kernel_rfl) ?_
          try go_wp2
          go_ret2
          exact ⟨az, bz HB.out⟩
         replace c50 := Bool.eq_false_iff.mpr c50
         subst c50
         replace H := iff_ H
         simp only [Option.some.injEq, Prod.mk.injEq] at H
         obtain ⟨rfl, rfl⟩ := H
         try go_wp2
         replace BK996 := am (blk_drew BK996.out)
         replace BK997 := am (blk_drew BK997.out)
         replace HB := am (below_drew1 HB.out)
         refine start_ (n := 5) (S := fun w' => w'.cell? ⟨gb996, 0, none⟩ = some (.int .i64 a0_0) ∧ w'.cell? ⟨gb996, 1, none⟩ = some (.int .i64 a0_1) ∧ w'.cell? ⟨gb997, 0, none⟩ = some (.int .i64 a1_0) ∧ w'.cell? ⟨gb997, 1, none⟩ = some (.int .i64 a1_1)) (ds := []) #[false, false, false, false, false] (by kernel_rfl) rfl rfl ⟨(blk_cell BK996.out 0).trans rfl, (blk_cell BK996.out 1).trans rfl, (blk_cell BK997.out 0).trans rfl, (blk_cell BK997.out 1).trans rfl⟩ (fun hHeld => ?_)
         generalize wc.drew = w61 at BK996 BK997 HB hHeld ⊢
         refine ta 0 (some 34) (bts 5 1) (by kernel_rfl) hHeld ?_
         refine ta 2 (some 36) (bts 5 5) (by kernel_rfl) hHeld ?_
         refine one_ (i := 1) (N := some 35) (bts 5 7) rfl rfl (by kernel_rfl) (by decide) (fun K hK => ?_)
         refine goes_ Tryz.func46 (by kernel_rfl) rfl #[.agg #[.int .i64 a0_0, .int .i64 a0_1]] (by rfl) rfl rfl lz ?_
         with_reducible refine (soffitref01_long.calls kj33 a0_0 a0_1 t1000 _ A38.out).mono ?_
         rintro e w62 ⟨v1001, rfl, ho0, hb⟩
         refine ⟨_, rfl, ?_⟩
         have HO1002 := am (Kd.R_lower ho0 (below_size (bz HB.out)))
         replace BK996 := kb BK996 hb
         replace BK997 := kb BK997 hb
         replace HB := sb HB hb
         (try clear hb)
         (try clear hb2)
         (try clear hk)
         (try clear hi)
         (try clear ho0)
         refine hK.out _ _ ⟨(blk_cell BK996.out 0).trans rfl, (blk_cell BK996.out 1).trans rfl, (blk_cell BK997.out 0).trans rfl, (blk_cell BK997.out 1).trans rfl⟩ (fun hHeld => ?_)
         clear hK K
         refine norm_ (a' := ?_) ?_ ?_
         rotate_left
         ·show Act.put _ (some 35) _ = _
          simp only [Act.put, List.setIfInBounds_toArray, List.set_cons_zero, List.set_cons_succ, i64_w, i32_w]
          rfl
         refine one_ (i := 3) (N := some 37) (bts 5 15) rfl rfl (by kernel_rfl) (by decide) (fun K hK => ?_)
         refine goes_ Tryz.func46 (by kernel_rfl) rfl #[.agg #[.int .i64 a1_0, .int .i64 a1_1]] (by rfl) rfl rfl lz ?_
         with_reducible refine (soffitref01_long.calls kj33 a1_0 a1_1 t1003 _ A39.out).mono ?_
         rintro e w63 ⟨v1004, rfl, ho0, hb⟩
         refine ⟨_, rfl, ?_⟩
         have HO1005 := am (Kd.R_lower (Kd.R_new' ho0 (Kd.R_lt (rr HO1002.out))) (below_size (bz HB.out)))
         replace HO1002 := am (Kd.R_elder' (rr HO1002.out) (Kd.R_base ho0) hb)
         replace BK996 := kb BK996 hb
         replace BK997 := kb BK997 hb
         replace HB := sb HB hb
         (try clear hb)
         (try clear hb2)
         (try clear hk)
         (try clear hi)
         (try clear ho0)
         obtain ⟨Ao64, co64, eo64⟩ := Kd.R_slice HO1002.out
         (first | subst eo64 | (injection eo64 with f1_ f2_ f3_; have f4_ := f1_.symm; have f5_ := f3_.symm; clear f1_ f2_ f3_; subst f4_; subst f5_))
         obtain ⟨Ao65, co65, eo65⟩ := Kd.R_slice HO1005.out
         (first | subst eo65 | (injection eo65 with f1_ f2_ f3_; have f4_ := f1_.symm; have f5_ := f3_.symm; clear f1_ f2_ f3_; subst f4_; subst f5_))
         refine hK.out _ _ ⟨(blk_cell BK996.out 0).trans rfl, (blk_cell BK996.out 1).trans rfl, (blk_cell BK997.out 0).trans rfl, (blk_cell BK997.out 1).trans rfl⟩ (fun hHeld => ?_)
         clear hK K
         refine norm_ (a' := ?_) ?_ ?_
         rotate_left
         ·show Act.put _ (some 37) _ = _
          simp only [Act.put, List.setIfInBounds_toArray, List.set_cons_zero, List.set_cons_succ, i64_w, i32_w]
          rfl
         refine one_ (i := 4) (N := some 38) (bts 5 31) rfl rfl (by kernel_rfl) (by decide) (fun K hK => ?_)
         refine goes_ Tryz.func49 (by kernel_rfl) rfl #[.slice Ao64 t1000.length co64, .slice Ao65 t1003.length co65] (by rfl) rfl rfl lz ?_
         with_reducible refine (soffitref01_less.calls kj33 _ _ t1000 _ _ t1003 false _ ?side1 ?side2 ?side3 ?side4 A40.out).mono ?_
         (case side1 => repeat (first | exact (Kd.R_reads' HO1002.out).2.2 | (with_reducible refine Kd.C_alloc ?_ _) | (with_reducible refine Kd.C_drewN ?_ _) | (with_reducible refine Kd.C_drew ?_)))
         (case side2 => exact (Kd.R_reads' HO1002.out).2.1)
         (case side3 => repeat (first | exact (Kd.R_reads' HO1005.out).2.2 | (with_reducible refine Kd.C_alloc ?_ _) | (with_reducible refine Kd.C_drewN ?_ _) | (with_reducible refine Kd.C_drew ?_)))
         (case side4 => exact (Kd.R_reads' HO1005.out).2.1)
         rintro e w' ⟨rfl, ⟨nd, rfl⟩⟩
         refine ⟨_, rfl, ?_⟩
         refine hK.out _ _ ⟨(blk_cell BK996.out 0).trans rfl, (blk_cell BK996.out 1).trans rfl, (blk_cell BK997.out 0).trans rfl, (blk_cell BK997.out 1).trans rfl⟩ (fun hHeld => ?_)
         clear hK K
         refine norm_ (a' := ?_) ?_ ?_
         rotate_left
         ·show Act.put _ (some 38) _ = _
          simp only [Act.put, List.setIfInBounds_toArray, List.set_cons_zero, List.set_cons_succ, i64_w, i32_w]
          rfl
         refine done_ (by kernel_rfl) ?_
         try go_wp2
         (try (rw [drewN_self w63]; generalize hq_ : World.drewN w63 _ = w63; have n0_ : Aside0 (Kd.R (Kd.int .i64) 3 w63 w.heap.size (fun k_ => some k_ ≠ (.slice Ao65 t1003.length co65 : Value).ownBlock) (.slice Ao64 t1000.length co64) t1000) := ⟨by rw [← hq_]; exact (by (with_reducible repeat (first | apply Kd.R_alloc | apply Kd.R_drewN | apply Kd.R_drew)); exact Kd.R_mono HO1002.out (fun _ hk => hk.2))⟩; have n1_ : Aside0 (Kd.R (Kd.int .i64) 3 w63 w.heap.size (fun k_ => some k_ ≠ (.slice Ao64 t1000.length co64 : Value).ownBlock) (.slice Ao65 t1003.length co65) t1003) := ⟨by rw [← hq_]; exact (by (with_reducible repeat (first | apply Kd.R_alloc | apply Kd.R_drewN | apply Kd.R_drew)); exact Kd.R_mono HO1005.out (fun _ hk => hk.2))⟩; have n2_ : Aside0 (w63.heap[gb996]? = some (.cells #[.int .i64 a0_0, .int .i64 a0_1] 23 (0, 0))) := ⟨by rw [← hq_]; exact (bk BK996.out)⟩; have n3_ : Aside0 (w63.heap[gb997]? = some (.cells #[.int .i64 a1_0, .int .i64 a1_1] 23 (0, 0))) := ⟨by rw [← hq_]; exact (bk BK997.out)⟩; have n4_ : Aside0 (Below w.heap.size w w63) := ⟨by rw [← hq_]; exact (bz HB.out)⟩; clear HO1002 HO1005 BK996 BK997 HB hq_; have HO1002 := n0_; have HO1005 := n1_; have BK996 := n2_; have BK997 := n3_; have HB := n4_; clear n0_ n1_ n2_ n3_ n4_))
         (try (have hcu996_0 : w63.cell? ⟨gb996, 0, none⟩ = some (.int .i64 a0_0) := (blk_cell BK996.out 0).trans rfl))
         (try (have hcu996_1 : w63.cell? ⟨gb996, 1, none⟩ = some (.int .i64 a0_1) := (blk_cell BK996.out 1).trans rfl))
         (try (have hcu997_0 : w63.cell? ⟨gb997, 0, none⟩ = some (.int .i64 a1_0) := (blk_cell BK997.out 0).trans rfl))
         (try (have hcu997_1 : w63.cell? ⟨gb997, 1, none⟩ = some (.int .i64 a1_1) := (blk_cell BK997.out 1).trans rfl))
         replace HO1002 := am (Kd.R_drew HO1002.out)
         replace HO1005 := am (Kd.R_drew HO1005.out)
         replace BK996 := am (blk_drew BK996.out)
         replace BK997 := am (blk_drew BK997.out)
         replace HB := am (below_drew1 HB.out)
         refine start_ (n := 5) (S := fun w' => w'.cell? ⟨gb997, 0, none⟩ = some (.int .i64 a1_0) ∧ w'.cell? ⟨gb997, 1, none⟩ = some (.int .i64 a1_1) ∧ w'.cell? ⟨gb996, 0, none⟩ = some (.int .i64 a0_0) ∧ w'.cell? ⟨gb996, 1, none⟩ = some (.int .i64 a0_1)) (ds := []) #[false, false, false, false, false] (by kernel_rfl) rfl rfl ⟨(blk_cell BK997.out 0).trans rfl, (blk_cell BK997.out 1).trans rfl, (blk_cell BK996.out 0).trans rfl, (blk_cell BK996.out 1).trans rfl⟩ (fun hHeld => ?_)
         generalize w63.drew = w66 at HO1002 HO1005 BK996 BK997 HB hHeld ⊢
         refine ta 0 (some 41) (bts 5 1) (by kernel_rfl) hHeld ?_
         refine ta 2 (some 43) (bts 5 5) (by kernel_rfl) hHeld ?_
         refine one_ (i := 1) (N := some 42) (bts 5 7) rfl rfl (by kernel_rfl) (by decide) (fun K hK => ?_)
         refine goes_ Tryz.func46 (by kernel_rfl) rfl #[.agg #[.int .i64 a1_0, .int .i64 a1_1]] (by rfl) rfl rfl lz ?_
         with_reducible refine (soffitref01_long.calls kj33 a1_0 a1_1 t1007 _ A47.out).mono ?_
         rintro e w67 ⟨v1008, rfl, ho0, hb⟩
         refine ⟨_, rfl, ?_⟩
         have HO1009 := am (Kd.R_lower (Kd.R_new' (Kd.R_new' ho0 (Kd.R_lt (rr HO1002.out))) (Kd.R_lt (rr HO1005.out))) (below_size (bz HB.out)))
         replace HO1002 := am (Kd.R_elder' (rr HO1002.out) (Kd.R_base ho0) hb)
         replace HO1005 := am (Kd.R_elder' (rr HO1005.out) (Kd.R_base ho0) hb)
         replace BK996 := kb BK996 hb
         replace BK997 := kb BK997 hb
         replace HB := sb HB hb
         (try clear hb)
         (try clear hb2)
         (try clear hk)
         (try clear hi)
         (try clear ho0)
         refine hK.out _ _ ⟨(blk_cell BK997.out 0).trans rfl, (blk_cell BK997.out 1).trans rfl, (blk_cell BK996.out 0).trans rfl, (blk_cell BK996.out 1).trans rfl⟩ (fun hHeld => ?_)
         clear hK K
         refine norm_ (a' := ?_) ?_ ?_
         rotate_left
         ·show Act.put _ (some 42) _ = _
          simp only [Act.put, List.setIfInBounds_toArray, List.set_cons_zero, List.set_cons_succ, i64_w, i32_w]
          rfl
         refine one_ (i := 3) (N := some 44) (bts 5 15) rfl rfl (by kernel_rfl) (by decide) (fun K hK => ?_)
         refine goes_ Tryz.func46 (by kernel_rfl) rfl #[.agg #[.int .i64 a0_0, .int .i64 a0_1]] (by rfl) rfl rfl lz ?_
         with_reducible refine (soffitref01_long.calls kj33 a0_0 a0_1 t1010 _ A48.out).mono ?_
         rintro e w68 ⟨v1011, rfl, ho0, hb⟩
         refine ⟨_, rfl, ?_⟩
         have HO1012 := am (Kd.R_lower (Kd.R_new' (Kd.R_new' (Kd.R_new' ho0 (Kd.R_lt (rr HO1002.out))) (Kd.R_lt (rr HO1005.out))) (Kd.R_lt (rr HO1009.out))) (below_size (bz HB.out)))
         replace HO1002 := am (Kd.R_elder' (rr HO1002.out) (Kd.R_base ho0) hb)
         replace HO1005 := am (Kd.R_elder' (rr HO1005.out) (Kd.R_base ho0) hb)
         replace HO1009 := am (Kd.R_elder' (rr HO1009.out) (Kd.R_base ho0) hb)
         replace BK996 := kb BK996 hb
         replace BK997 := kb BK997 hb
         replace HB := sb HB hb
         (try clear hb)
         (try clear hb2)
         (try clear hk)
         (try clear hi)
         (try clear ho0)
         obtain ⟨Ao69, co69, eo69⟩ := Kd.R_slice HO1009.out
         (first | subst eo69 | (injection eo69 with f1_ f2_ f3_; have f4_ := f1_.symm; have f5_ := f3_.symm; clear f1_ f2_ f3_; subst f4_; subst f5_))
         obtain ⟨Ao70, co70, eo70⟩ := Kd.R_slice HO1012.out
         (first | subst eo70 | (injection eo70 with f1_ f2_ f3_; have f4_ := f1_.symm; have f5_ := f3_.symm; clear f1_ f2_ f3_; subst f4_; subst f5_))
         refine hK.out _ _ ⟨(blk_cell BK997.out 0).trans rfl, (blk_cell BK997.out 1).trans rfl, (blk_cell BK996.out 0).trans rfl, (blk_cell BK996.out 1).trans rfl⟩ (fun hHeld => ?_)
         clear hK K
         refine norm_ (a' := ?_) ?_ ?_
         rotate_left
         ·show Act.put _ (some 44) _ = _
          simp only [Act.put, List.setIfInBounds_toArray, List.set_cons_zero, List.set_cons_succ, i64_w, i32_w]
          rfl
         refine one_ (i := 4) (N := some 45) (bts 5 31) rfl rfl (by kernel_rfl) (by decide) (fun K hK => ?_)
         refine goes_ Tryz.func49 (by kernel_rfl) rfl #[.slice Ao69 t1007.length co69, .slice Ao70 t1010.length co70] (by rfl) rfl rfl lz ?_
         with_reducible refine (soffitref01_less.calls kj33 _ _ t1007 _ _ t1010 false _ ?side1 ?side2 ?side3 ?side4 A49.out).mono ?_
         (case side1 => repeat (first | exact (Kd.R_reads' HO1009.out).2.2 | (with_reducible refine Kd.C_alloc ?_ _) | (with_reducible refine Kd.C_drewN ?_ _) | (with_reducible refine Kd.C_drew ?_)))
         (case side2 => exact (Kd.R_reads' HO1009.out).2.1)
         (case side3 => repeat (first | exact (Kd.R_reads' HO1012.out).2.2 | (with_reducible refine Kd.C_alloc ?_ _) | (with_reducible refine Kd.C_drewN ?_ _) | (with_reducible refine Kd.C_drew ?_)))
         (case side4 => exact (Kd.R_reads' HO1012.out).2.1)
         rintro e w' ⟨rfl, ⟨nd, rfl⟩⟩
         refine ⟨_, rfl, ?_⟩
         refine hK.out _ _ ⟨(blk_cell BK997.out 0).trans rfl, (blk_cell BK997.out 1).trans rfl, (blk_cell BK996.out 0).trans rfl, (blk_cell BK996.out 1).trans rfl⟩ (fun hHeld => ?_)
         clear hK K
         refine norm_ (a' := ?_) ?_ ?_
         rotate_left
         ·show Act.put _ (some 45) _ = _
          simp only [Act.put, List.setIfInBounds_toArray, List.set_cons_zero, List.set_cons_succ, i64_w, i32_w]
          rfl
         refine done_ (by kernel_rfl) ?_
         try go_wp2
         go_ret2
         exact ⟨az, bz HB.out⟩
end Go.Proofs.YtgkemhgihbfmmaaGreatDoor.PA
end
section
namespace Go.Proofs.YtgkemhgihbfmmaaGreatDoor.PA
open Go.RowKit Go.Proofs.YtgkemhgihbfmmaaGreatDoorW.PrintWords Go.Proofs.YtgkemhgihbfmmaaGreatDoorW.PrintLast Go.Proofs.YtgkemhgihbfmmaaGreatDoorW.PrintMore
attribute [local go_sem] max2_int min2_int max_two min_two max_three min_three max_four min_four isSome_set str_gtr
set_option linter.unusedVariables false
set_option linter.unusedSimpArgs false
mutual
def soffitref04_Compare.j0 : Nat → Bool → Int → Int → Int → ByteArray → Int → Int → Int → Int → ByteArray → Int → Option (Int × Int)
 | 0, _, _, _, _, _, _, _, _, _, _, _ => none
 | k + 1, x13, x1015000, x1015001, x1015002, x1015003, x1015004, x1016000, x1016001, x1016002, x1016003, x1016004 => if x13 = true then (some (0, 2)) else (if x1015000 = x1016000 then (if x1015000 = 1 then ((soffitref01_Compare.f k x1015001 x1015002 x1016001 x1016002).bind fun bt1018 => (some (bt1018.1, bt1018.2))) else (if (Op.bytesLess x1015003.toList x1016003.toList) = true then (soffitref04_Compare.j1 k true x1015000 x1015001 x1015002 x1015003 x1015004 x1016000 x1016001 x1016002 x1016003 x1016004) else (soffitref04_Compare.j1 k (decide (x1015004 < x1016004)) x1015000 x1015001 x1015002 x1015003 x1015004 x1016000 x1016001 x1016002 x1016003 x1016004))) else (if x1015000 < x1016000 then (some ((-1), 0)) else (some (1, 0))))
def soffitref04_Compare.j1 : Nat → Bool → Int → Int → Int → ByteArray → Int → Int → Int → Int → ByteArray → Int → Option (Int × Int)
 | 0, _, _, _, _, _, _, _, _, _, _, _ => none
 | k + 1, x45, x1015000, x1015001, x1015002, x1015003, x1015004, x1016000, x1016001, x1016002, x1016003, x1016004 => if x45 = true then (some ((-1), 0)) else (if (Op.bytesLess x1016003.toList x1015003.toList) = true then (some (1, 0)) else (if x1015004 > x1016004 then (some (1, 0)) else (some (0, 0))))
end
def soffitref04_Compare.f (k : Nat) (a0_0 a0_1 a0_2 : Int) (a0_3 : ByteArray) (a0_4 a1_0 a1_1 a1_2 : Int) (a1_3 : ByteArray) (a1_4 : Int) : Option (Int × Int) := (soffitref04_Sound.f k a0_0 a0_1 a0_2 a0_3 a0_4).bind fun t1016 => (if t1016 = true then ((soffitref04_Sound.f k a1_0 a1_1 a1_2 a1_3 a1_4).bind fun t1017 => (soffitref04_Compare.j0 k (!t1017) a0_0 a0_1 a0_2 a0_3 a0_4 a1_0 a1_1 a1_2 a1_3 a1_4)) else (soffitref04_Compare.j0 k true a0_0 a0_1 a0_2 a0_3 a0_4 a1_0 a1_1 a1_2 a1_3 a1_4))
set_option maxHeartbeats 8000000 in
set_option maxRecDepth 100000 in
theorem soffitref04_Compare.calls (k : Nat) (a0_0 a0_1 a0_2 : Int) (a0_3 : ByteArray) (a0_4 a1_0 a1_1 a1_2 : Int) (a1_3 : ByteArray) (a1_4 r1 r2 : Int) (w : World) (h : soffitref04_Compare.f k a0_0 a0_1 a0_2 a0_3 a0_4 a1_0 a1_1 a1_2 a1_3 a1_4 = some (r1, r2)) :
  Calls Tryz.prog 60 #[.agg #[.int .i64 a0_0, .int .i64 a0_1, .int .i64 a0_2, .string a0_3, .int .i64 a0_4], .agg #[.int .i64 a1_0, .int .i64 a1_1, .int .i64 a1_2, .string a1_3, .int .i64 a1_4]] w fun e w' => e = .returned (.tuple #[.int .i64 r1, .int .i64 r2]) ∧ Below w.heap.size w w' := by
 have hu25 := Tryz.underlying25
 have hu23 := Tryz.underlying23
 have HB := am (Below.refl w.heap.size w)
 have H : ((soffitref04_Sound.f k a0_0 a0_1 a0_2 a0_3 a0_4).bind fun t1016 => (if t1016 = true then ((soffitref04_Sound.f k a1_0 a1_1 a1_2 a1_3 a1_4).bind fun t1017 => (soffitref04_Compare.j0 k (!t1017) a0_0 a0_1 a0_2 a0_3 a0_4 a1_0 a1_1 a1_2 a1_3 a1_4)) else (soffitref04_Compare.j0 k true a0_0 a0_1 a0_2 a0_3 a0_4 a1_0 a1_1 a1_2 a1_3 a1_4))) = some (r1, r2) := h
 clear h
 have HC3 := am H
 clear H
 go_enter Tryz.func60, Tryz.ntmps60
 go_upto_region 1 with (first | ((with_reducible refine gate_dst (N := 2) rfl ?_); refine bev (#[.int .i64 a0_0, .int .i64 a0_1, .int .i64 a0_2, .string a0_3, .int .i64 a0_4]) 25 ?_; intro gb1014 hg w4 hbox hb; have BK1014 := am (hbox); have GW1014 := gs hg HB; have GE1014 := GW1014; replace HB := sb HB hb; clear hb hbox hg) | ((with_reducible refine gate_dst (N := 3) rfl ?_); refine bev (#[.int .i64 a1_0, .int .i64 a1_1, .int .i64 a1_2, .string a1_3, .int .i64 a1_4]) 25 ?_; intro gb1015 hg w5 hbox hb; have BK1015 := am (hbox); have GW1015 := gs hg HB; have GE1015 := GW1015; replace HB := sb HB hb; have NB1014_1015 := na hg BK1014; have NB1015_1014 := nb hg BK1014; replace BK1014 := kb BK1014 hb; clear hb hbox hg))
 (try simp only [Act.put, List.setIfInBounds_toArray, List.set_cons_zero, List.set_cons_succ])
 go_cut [13] (fun v13 wc => ∃ (kq : Nat) (x13_2 : Bool), v13 = .bool x13_2 ∧ Aside0 (soffitref04_Compare.j0 kq x13_2 a0_0 a0_1 a0_2 a0_3 a0_4 a1_0 a1_1 a1_2 a1_3 a1_4 = some (r1, r2)) ∧ Aside0 (kq ≤ k) ∧ Aside0 (wc.heap[gb1014]? = some (.cells #[.int .i64 a0_0, .int .i64 a0_1, .int .i64 a0_2, .string a0_3, .int .i64 a0_4] 25 (0, 0))) ∧ Aside0 (wc.heap[gb1015]? = some (.cells #[.int .i64 a1_0, .int .i64 a1_1, .int .i64 a1_2, .string a1_3, .int .i64 a1_4] 25 (0, 0))) ∧ Aside0 (Below w.heap.size w wc))
 case first =>
  have H := HC3.out
  clear HC3
  replace H := obe H
  obtain ⟨t1016, A6, H⟩ := H
  by_cases c7 : t1016 = true
  ·subst c7
   replace H := ift H
   replace H := obe H
   obtain ⟨t1017, A8, H⟩ := H
   have H' := am H
   clear H
   have hnb9 := NB1014_1015.out
   have hnc9 := NB1015_1014.out
   obtain ⟨Z10_0, Z10_1, Z10_2, Z10_3, Z10_4, F10_0, F10_1, F10_2, F10_3, F10_4⟩ := cz5 BK1014.out
   go_wp2_with (first | ((with_reducible refine gate_callee (f := 15) rfl ?_); refine gl_ (some 7) Tryz.func15 (by kernel_rfl) #[.agg #[.int .i64 a0_0, .int .i64 a0_1, .int .i64 a0_2, .string a0_3, .int .i64 a0_4]] rfl ?_; (with_reducible refine (soffitref04_Sound.calls k a0_0 a0_1 a0_2 a0_3 a0_4 true _ A6.out).mono ?_); rintro e w11 ⟨rfl, hb⟩; refine ⟨_, rfl, ?_⟩; replace BK1014 := kb BK1014 hb; replace BK1015 := kb BK1015 hb; replace HB := sb HB hb; clear hb; obtain ⟨Z12_0, Z12_1, Z12_2, Z12_3, Z12_4, F12_0, F12_1, F12_2, F12_3, F12_4⟩ := cz5 BK1015.out) | (go_at_call 15; (with_reducible refine (soffitref04_Sound.calls k a1_0 a1_1 a1_2 a1_3 a1_4 t1017 _ A8.out).mono ?_); rintro e w13 ⟨rfl, hb⟩; replace BK1014 := kb BK1014 hb; replace BK1015 := kb BK1015 hb; replace HB := sb HB hb; clear hb))
   go_meet
   case rel => exact ⟨_, (!t1017), sz, H', ⟨oz⟩, ⟨bk BK1014.out⟩, ⟨bk BK1015.out⟩, ⟨bz HB.out⟩⟩
  replace c7 := Bool.eq_false_iff.mpr c7
  subst c7
  replace H := iff_ H
  have H' := am H
  clear H
  have hnb14 := NB1014_1015.out
  have hnc14 := NB1015_1014.out
  obtain ⟨Z15_0, Z15_1, Z15_2, Z15_3, Z15_4, F15_0, F15_1, F15_2, F15_3, F15_4⟩ := cz5 BK1014.out
  go_wp2_with (first | ((with_reducible refine gate_callee (f := 15) rfl ?_); refine gl_ (some 7) Tryz.func15 (by kernel_rfl) #[.agg #[.int .i64 a0_0, .int .i64 a0_1, .int .i64 a0_2, .string a0_3, .int .i64 a0_4]] rfl ?_; (with_reducible refine (soffitref04_Sound.calls k a0_0 a0_1 a0_2 a0_3 a0_4 false _ A6.out).mono ?_); rintro e w16 ⟨rfl, hb⟩; refine ⟨_, rfl, ?_⟩; replace BK1014 := kb BK1014 hb; replace BK1015 := kb BK1015 hb; replace HB := sb HB hb; clear hb))
  go_meet
  case rel => exact ⟨_, (true), sz, H', ⟨oz⟩, ⟨bk BK1014.out⟩, ⟨bk BK1015.out⟩, ⟨bz HB.out⟩⟩
 case rest =>
  clear HC3
  skip
  obtain ⟨kq, x13_2, rfl, HA, HJ2, BK1014, BK1015, HB⟩ := hcut
  cases kq with
  | zero => exact absurd HA.out (by simp [soffitref04_Compare.j0])
  | succ kj2 =>
   have H := HA.out
   clear HA
   simp only [soffitref04_Compare.j0] at H
   by_cases c17 : x13_2 = true
   ·subst c17
    replace H := ift H
    simp only [Option.some.injEq, Prod.mk.injEq] at H
    obtain ⟨rfl, rfl⟩ := H
    go_wp2
    go_ret2
    exact ⟨az, bz HB.out⟩
   replace c17 := Bool.eq_false_iff.mpr c17
   subst c17
   replace H := iff_ H
   have HC18 := am H
   clear H
   have hnb19 := NB1014_1015.out
   have hnc19 := NB1015_1014.out
   obtain ⟨Z20_0, Z20_1, Z20_2, Z20_3, Z20_4, F20_0, F20_1, F20_2, F20_3, F20_4⟩ := cz5 BK1014.out
   obtain ⟨Z21_0, Z21_1, Z21_2, Z21_3, Z21_4, F21_0, F21_1, F21_2, F21_3, F21_4⟩ := cz5 BK1015.out
   go_upto_if 18 with (fail)
   have H := HC18.out
   clear HC18
   clear Z20_0 Z20_1 Z20_2 Z20_3 Z20_4 F20_0 F20_1 F20_2 F20_3 F20_4 Z21_0 Z21_1 Z21_2 Z21_3 Z21_4 F21_0 F21_1 F21_2 F21_3 F21_4
   by_cases c22 : a0_0 = a1_0
   ·replace H := ipe c22 H
    obtain ⟨H, c22b0, c22b1⟩ := H
    clear c22
    (first | rw [c22b0] | (simp only [i64_w, i32_w]; rw [c22b0]) | skip)
    have HC23 := am H
    clear H
    have hnb24 := NB1014_1015.out
    have hnc24 := NB1015_1014.out
    obtain ⟨Z25_0, Z25_1, Z25_2, Z25_3, Z25_4, F25_0, F25_1, F25_2, F25_3, F25_4⟩ := cz5 BK1014.out
    go_upto_if 26 with (fail)
    have H := HC23.out
    clear HC23
    clear Z25_0 Z25_1 Z25_2 Z25_3 Z25_4 F25_0 F25_1 F25_2 F25_3 F25_4
    by_cases c26 : a0_0 = 1
    ·replace H := ipe c26 H
     obtain ⟨H, c26b0, c26b1⟩ := H
     clear c26
     (first | rw [c26b0] | (simp only [i64_w, i32_w]; rw [c26b0]) | skip)
     replace H := obe2 H
     obtain ⟨t1018, t1019, A27, H⟩ := H
     simp only [Option.some.injEq, Prod.mk.injEq] at H
     obtain ⟨rfl, rfl⟩ := H
     have hnb28 := NB1014_1015.out
     have hnc28 := NB1015_1014.out
     obtain ⟨Z29_0, Z29_1, Z29_2, Z29_3, Z29_4, F29_0, F29_1, F29_2, F29_3, F29_4⟩ := cz5 BK1014.out
     obtain ⟨Z30_0, Z30_1, Z30_2, Z30_3, Z30_4, F30_0, F30_1, F30_2, F30_3, F30_4⟩ := cz5 BK1015.out
     go_wp2_with (first | ((with_reducible refine gate_callee (f := 21) rfl ?_); refine gl_ (some 31) Tryz.func21 (by kernel_rfl) #[.agg #[.int .i64 a0_1, .int .i64 a0_2], .agg #[.int .i64 a1_1, .int .i64 a1_2]] rfl ?_; (with_reducible refine (soffitref01_Compare.calls kj2 a0_1 a0_2 a1_1 a1_2 t1018 t1019 _ A27.out).mono ?_); rintro e w31 ⟨rfl, hb⟩; refine ⟨_, rfl, ?_⟩; replace BK1014 := kb BK1014 hb; replace BK1015 := kb BK1015 hb; replace HB := sb HB hb; clear hb))
     go_ret2
     exact ⟨az, bz HB.out⟩
    replace H := ine c26 H
    obtain ⟨H, c26b0, c26b1⟩ := H
    (first | rw [c26b0] | (simp only [i64_w, i32_w]; rw [c26b0]) | skip)
    have HC32 := am H
    clear H
    go_upto_region 9 with (fail)
    go_cut [45] (fun v45 wc => ∃ (kq : Nat) (x45_31 : Bool), v45 = .bool x45_31 ∧ Aside0 (soffitref04_Compare.j1 kq x45_31 a0_0 a0_1 a0_2 a0_3 a0_4 a1_0 a1_1 a1_2 a1_3 a1_4 = some (r1, r2)) ∧ Aside0 (kq ≤ kj2) ∧ Aside0 (wc.heap[gb1014]? = some (.cells #[.int .i64 a0_0, .int .i64 a0_1, .int .i64 a0_2, .string a0_3, .int .i64 a0_4] 25 (0, 0))) ∧ Aside0 (wc.heap[gb1015]? = some (.cells #[.int .i64 a1_0, .int .i64 a1_1, .int .i64 a1_2, .string a1_3, .int .i64 a1_4] 25 (0, 0))) ∧ Aside0 (Below w.heap.size w wc))
    case first =>
     have H := HC32.out
     clear HC32
     by_cases c33 : (Op.bytesLess a0_3.toList a1_3.toList) = true
     ·rw [if_pos c33] at H
      have c33b0 : (Op.bytesLess a0_3.toList a1_3.toList) = true := c33
      clear c33
      (first | rw [c33b0] | (simp only [i64_w, i32_w]; rw [c33b0]) | skip)
      have H' := am H
      clear H
      have hnb34 := NB1014_1015.out
      have hnc34 := NB1015_1014.out
      obtain ⟨Z35_0, Z35_1, Z35_2, Z35_3, Z35_4, F35_0, F35_1, F35_2, F35_3, F35_4⟩ := cz5 BK1014.out
      obtain ⟨Z36_0, Z36_1, Z36_2, Z36_3, Z36_4, F36_0, F36_1, F36_2, F36_3, F36_4⟩ := cz5 BK1015.out
      go_wp2
      go_meet
      case rel => exact ⟨_, (true), sz, H', ⟨oa HJ2⟩, ⟨bk BK1014.out⟩, ⟨bk BK1015.out⟩, ⟨bz HB.out⟩⟩
     rw [if_neg c33] at H
     have c33b0 : (Op.bytesLess a0_3.toList a1_3.toList) = false := by simpa using c33
     clear c33
     (first | rw [c33b0] | (simp only [i64_w, i32_w]; rw [c33b0]) | skip)
     have H' := am H
     clear H
     have hnb37 := NB1014_1015.out
     have hnc37 := NB1015_1014.out
     obtain ⟨Z38_0, Z38_1, Z38_2, Z38_3, Z38_4, F38_0, F38_1, F38_2, F38_3, F38_4⟩ := cz5 BK1014.out
     obtain ⟨Z39_0, Z39_1, Z39_2, Z39_3, Z39_4, F39_0, F39_1, F39_2, F39_3, F39_4⟩ := cz5 BK1015.out
     go_wp2
     go_meet
     case rel => exact ⟨_, (decide (a0_4 < a1_4)), sz, H', ⟨oa HJ2⟩, ⟨bk BK1014.out⟩, ⟨bk BK1015.out⟩, ⟨bz HB.out⟩⟩
    case rest =>
     clear HC32
     try clear c7; try clear c17; try clear c22; try clear c22b0; try clear c22b1; try clear c26; try clear c26b0; try clear c26b1; try clear Z10_0; try clear Z10_1; try clear Z10_2; try clear Z10_3; try clear Z10_4; try clear Z12_0; try clear Z12_1; try clear Z12_2; try clear Z12_3; try clear Z12_4; try clear Z15_0; try clear Z15_1; try clear Z15_2; try clear Z15_3; try clear Z15_4; try clear Z20_0; try clear Z20_1; try clear Z20_2; try clear Z20_3; try clear Z20_4; try clear Z21_0; try clear Z21_1; try clear Z21_2; try clear Z21_3; try clear Z21_4; try clear Z25_0; try clear Z25_1; try clear Z25_2; try clear Z25_3; try clear Z25_4; try clear Z29_0; try clear Z29_1; try clear Z29_2; try clear Z29_3; try clear Z29_4; try clear Z30_0; try clear Z30_1; try clear Z30_2; try clear Z30_3; try clear Z30_4; try clear F10_0; try clear F10_1; try clear F10_2; try clear F10_3; try clear F10_4; try clear F12_0; try clear F12_1; try clear F12_2; try clear F12_3; try clear F12_4; try clear F15_0; try clear F15_1; try clear F15_2; try clear F15_3; try clear F15_4; try clear F20_0; try clear F20_1; try clear F20_2; try clear F20_3; try clear F20_4; try clear F21_0; try clear F21_1; try clear F21_2; try clear F21_3; try clear F21_4; try clear F25_0; try clear F25_1; try clear F25_2; try clear F25_3; try clear F25_4; try clear F29_0; try clear F29_1; try clear F29_2; try clear F29_3; try clear F29_4; try clear F30_0; try clear F30_1; try clear F30_2; try clear F30_3; try clear F30_4
     obtain ⟨kq, x45_31, rfl, HA, HJ31, BK1014, BK1015, HB⟩ := hcut
     cases kq with
     | zero => exact absurd HA.out (by simp [soffitref04_Compare.j1])
     | succ kj31 =>
      have H := HA.out
      clear HA
      simp only [soffitref04_Compare.j1] at H
      by_cases c40 : x45_31 = true
      ·subst c40
       replace H := ift H
       simp only [Option.some.injEq, Prod.mk.injEq] at H
       obtain ⟨rfl, rfl⟩ := H
       go_wp2
       go_ret2
       exact ⟨az, bz HB.out⟩
      replace c40 := Bool.eq_false_iff.mpr c40
      subst c40
      replace H := iff_ H
      by_cases c41 : (Op.bytesLess a1_3.toList a0_3.toList) = true
      ·rw [if_pos c41] at H
       have c41b0 : (Op.bytesLess a1_3.toList a0_3.toList) = true := c41
       clear c41
       simp only [Option.some.injEq, Prod.mk.injEq] at H
       obtain ⟨rfl, rfl⟩ := H
       have hnb42 := NB1014_1015.out
       have hnc42 := NB1015_1014.out
       obtain ⟨Z43_0, Z43_1, Z43_2, Z43_3, Z43_4, F43_0, F43_1, F43_2, F43_3, F43_4⟩ := cz5 BK1014.out
       obtain ⟨Z44_0, Z44_1, Z44_2, Z44_3, Z44_4, F44_0, F44_1, F44_2, F44_3, F44_4⟩ := cz5 BK1015.out
       go_wp2
       go_ret2
       exact ⟨az, bz HB.out⟩
      rw [if_neg c41] at H
      have c41b0 : (Op.bytesLess a1_3.toList a0_3.toList) = false := by simpa using c41
      clear c41
      have HC45 := am H
      clear H
      have hnb46 := NB1014_1015.out
      have hnc46 := NB1015_1014.out
      obtain ⟨Z47_0, Z47_1, Z47_2, Z47_3, Z47_4, F47_0, F47_1, F47_2, F47_3, F47_4⟩ := cz5 BK1014.out
      obtain ⟨Z48_0, Z48_1, Z48_2, Z48_3, Z48_4, F48_0, F48_1, F48_2, F48_3, F48_4⟩ := cz5 BK1015.out
      go_upto_if 57 with (fail)
      have H := HC45.out
      clear HC45
      clear Z47_0 Z47_1 Z47_2 Z47_3 Z47_4 F47_0 F47_1 F47_2 F47_3 F47_4 Z48_0 Z48_1 Z48_2 Z48_3 Z48_4 F48_0 F48_1 F48_2 F48_3 F48_4
      by_cases c49 : a0_4 > a1_4
      ·rw [if_pos c49] at H
       have c49b0 : decide (a1_4 < a0_4) = true := decide_eq_true c49
       clear c49
       (first | rw [c49b0] | (simp only [i64_w, i32_w]; rw [c49b0]) | skip)
       simp only [Option.some.injEq, Prod.mk.injEq] at H
       obtain ⟨rfl, rfl⟩ := H
       go_wp2
       go_ret2
       exact ⟨az, bz HB.out⟩
      rw [if_neg c49] at H
      have c49b0 : decide (a1_4 < a0_4) = false := decide_eq_false c49
      clear c49
      (first | rw [c49b0] | (simp only [i64_w, i32_w]; rw [c49b0]) | skip)
      simp only [Option.some.injEq, Prod.mk.injEq] at H
      obtain ⟨rfl, rfl⟩ := H
      go_wp2
      go_ret2
      exact ⟨az, bz HB.out⟩
   replace H := ine c22 H
   obtain ⟨H, c22b0, c22b1⟩ := H
   (first | rw [c22b0] | (simp only [i64_w, i32_w]; rw [c22b0]) | skip)
   have HC50 := am H
   clear H
   have hnb51 := NB1014_1015.out
   have hnc51 := NB1015_1014.out
   obtain ⟨Z52_0, Z52_1, Z52_2, Z52_3, Z52_4, F52_0, F52_1, F52_2, F52_3, F52_4⟩ := cz5 BK1014.out
   obtain ⟨Z53_0, Z53_1, Z53_2, Z53_3, Z53_4, F53_0, F53_1, F53_2, F53_3, F53_4⟩ := cz5 BK1015.out
   go_upto_if 23 with (fail)
   have H := HC50.out
   clear HC50
   clear Z52_0 Z52_1 Z52_2 Z52_3 Z52_4 F52_0 F52_1 F52_2 F52_3 F52_4 Z53_0 Z53_1 Z53_2 Z53_3 Z53_4 F53_0 F53_1 F53_2 F53_3 F53_4
   by_cases c54 : a0_0 < a1_0
   ·rw [if_pos c54] at H
    have c54b0 : decide (a0_0 < a1_0) = true := decide_eq_true c54
    clear c54
    (first | rw [c54b0] | (simp only [i64_w, i32_w]; rw [c54b0]) | skip)
    simp only [Option.some.injEq, Prod.mk.injEq] at H
    obtain ⟨rfl, rfl⟩ := H
    go_wp2
    go_ret2
    exact ⟨az, bz HB.out⟩
   rw [if_neg c54] at H
   have c54b0 : decide (a0_0 < a1_0) = false := decide_eq_false c54
   clear c54
   (first | rw [c54b0] | (simp only [i64_w, i32_w]; rw [c54b0]) | skip)
   simp only [Option.some.injEq, Prod.mk.injEq] at H
   obtain ⟨rfl, rfl⟩ := H
   go_wp2
   go_ret2
   exact ⟨az, bz HB.out⟩
end Go.Proofs.YtgkemhgihbfmmaaGreatDoor.PA
end
