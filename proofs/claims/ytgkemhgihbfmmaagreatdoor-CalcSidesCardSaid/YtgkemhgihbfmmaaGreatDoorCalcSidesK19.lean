/- Part 20 of the proof for CalcSides: functions of the program as plain Lean functions, their calls, and what they come to. -/
import Derived.Deep.LoopGhost
import Derived.Test.YtgkemhgihbfmmaaGreatDoorCalcSidesK18
import Derived.Test.YtgkemhgihbfmmaaGreatDoorCalcSidesK17
set_option linter.unusedVariables false
set_option linter.unusedSimpArgs false
section
namespace Go.Proofs.YtgkemhgihbfmmaaGreatDoor.PA
open Go.RowKit Go.Proofs.YtgkemhgihbfmmaaGreatDoorW.PrintWords Go.Proofs.YtgkemhgihbfmmaaGreatDoorW.PrintLast Go.Proofs.YtgkemhgihbfmmaaGreatDoorW.PrintMore
attribute [local go_sem] max2_int min2_int max_two min_two max_three min_three max_four min_four isSome_set str_gtr
set_option linter.unusedVariables false
set_option linter.unusedSimpArgs false
mutual
def expr_names.j0 : Nat → List ByteArray → Int → Int → Int → Int → ByteArray → Int → ByteArray → List (S31) → Option (List ByteArray)
 | 0, _, _, _, _, _, _, _, _, _ => none
 | k + 1, x3, x236000, x236001, x236002, x236003, x236004, x236005, x236006, x236007 => expr_names.l0 k x3 x236007 (x236007.length : Int) 0
def expr_names.l0 : Nat → List ByteArray → List (S31) → Int → Int → Option (List ByteArray)
 | 0, _, _, _, _ => none
 | k + 1, x3, x15, x16, x17 => if x17 < x16 then (if 0 ≤ x17 then (if x17 < (x15.length : Int) then ((expr_names.f k ((rd_T31 x15 x17).f0) ((rd_T31 x15 x17).f1.f0) ((rd_T31 x15 x17).f1.f1.f0) ((rd_T31 x15 x17).f1.f1.f1) ((rd_T31 x15 x17).f1.f2) ((rd_T31 x15 x17).f1.f3) ((rd_T31 x15 x17).f2) ((rd_T31 x15 x17).f3)).bind fun t241 => (if x3.length + t241.length < 8796093022208 then (expr_names.l0 k (x3 ++ t241) x15 x16 (wrap64 (x17 + 1))) else (none))) else (none)) else (none)) else (some x3)
def expr_names.f : Nat → Int → Int → Int → Int → ByteArray → Int → ByteArray → List (S31) → Option (List ByteArray)
 | 0, _, _, _, _, _, _, _, _ => none
 | k + 1, a0_0, a0_1, a0_2, a0_3, a0_4, a0_5, a0_6, l0_7 => if a0_0 = 2 then (if ([] : List ByteArray).length < 8796093022208 then (expr_names.j0 k (([] : List ByteArray) ++ [a0_6]) a0_0 a0_1 a0_2 a0_3 a0_4 a0_5 a0_6 l0_7) else (none)) else (expr_names.j0 k ([] : List ByteArray) a0_0 a0_1 a0_2 a0_3 a0_4 a0_5 a0_6 l0_7)
end
theorem expr_names.mono_l : ∀ k, (∀ y0 y1 y2 y3 y4 y5 y6 y7, LeO (expr_names.f k y0 y1 y2 y3 y4 y5 y6 y7) (expr_names.f (k + 1) y0 y1 y2 y3 y4 y5 y6 y7)) ∧ (∀ y0 y1 y2 y3 y4 y5 y6 y7 y8, LeO (expr_names.j0 k y0 y1 y2 y3 y4 y5 y6 y7 y8) (expr_names.j0 (k + 1) y0 y1 y2 y3 y4 y5 y6 y7 y8)) ∧ (∀ y0 y1 y2 y3, LeO (expr_names.l0 k y0 y1 y2 y3) (expr_names.l0 (k + 1) y0 y1 y2 y3))
 | 0 => ⟨fun _ _ _ _ _ _ _ _ r h => by simp [expr_names.f] at h, fun _ _ _ _ _ _ _ _ _ r h => by simp [expr_names.j0] at h, fun _ _ _ _ r h => by simp [expr_names.l0] at h⟩
 | k + 1 => by
  obtain ⟨ih0, ih1, ih2⟩ := expr_names.mono_l k
  refine ⟨?_, ?_, ?_⟩
  ·intro y0 y1 y2 y3 y4 y5 y6 y7
   unfold expr_names.f
   exact lmo
  ·intro y0 y1 y2 y3 y4 y5 y6 y7 y8
   unfold expr_names.j0
   exact lmo
  intro y0 y1 y2 y3
  unfold expr_names.l0
  exact lmo
theorem expr_names.mono : ∀ a0 a1 a2 a3 a4 a5 a6 a7 k, LeO (expr_names.f k a0 a1 a2 a3 a4 a5 a6 a7) (expr_names.f (k + 1) a0 a1 a2 a3 a4 a5 a6 a7) := by
 intro a0 a1 a2 a3 a4 a5 a6 a7 k
 obtain ⟨ih0, ih1, ih2⟩ := expr_names.mono_l k
 exact ih0 a0 a1 a2 a3 a4 a5 a6 a7
set_option maxHeartbeats 8000000 in
set_option maxRecDepth 100000 in
theorem expr_names.calls (k : Nat) : ∀ (a0_0 a0_1 a0_2 a0_3 : Int) (a0_4 : ByteArray) (a0_5 : Int) (a0_6 : ByteArray) (A0_7 : Option Addr) (c0_7 : Nat) (l0_7 : List (S31)) (r : List ByteArray) (w : World) (hr0_7 : Kd.C k31 w A0_7 l0_7.length l0_7) (hc0_7 : l0_7.length ≤ c0_7) (h : expr_names.f k a0_0 a0_1 a0_2 a0_3 a0_4 a0_5 a0_6 l0_7 = some r),
  Calls Tryz.prog 72 #[.agg #[.int .i64 a0_0, .int .i64 a0_1, .int .i64 a0_2, .int .i64 a0_3, .string a0_4, .int .i64 a0_5, .string a0_6, .slice A0_7 l0_7.length c0_7]] w fun e w' => ∃ v0_ : Value, e = .returned (v0_) ∧ Kd.R Kd.string 9 w' w.heap.size (fun _ => True) v0_ r ∧ Below w.heap.size w w' := by
 induction k using Nat.strongRecOn with
 | _ k ih =>
 intro a0_0 a0_1 a0_2 a0_3 a0_4 a0_5 a0_6 A0_7 c0_7 l0_7 r w hr0_7 hc0_7 h
 cases k with
 | zero => exact absurd h (by simp [expr_names.f])
 | succ k =>
 simp only [expr_names.f] at h
 have hu31 := Tryz.underlying31
 have HR0_7 := am hr0_7
 have HC0_7 := am hc0_7
 clear hr0_7 hc0_7
 have HB := am (Below.refl w.heap.size w)
 have H : (if a0_0 = 2 then (if ([] : List ByteArray).length < 8796093022208 then (expr_names.j0 k (([] : List ByteArray) ++ [a0_6]) a0_0 a0_1 a0_2 a0_3 a0_4 a0_5 a0_6 l0_7) else (none)) else (expr_names.j0 k ([] : List ByteArray) a0_0 a0_1 a0_2 a0_3 a0_4 a0_5 a0_6 l0_7)) = some r := h
 clear h
 have HC2 := am H
 clear H
 go_enter Tryz.func72, Tryz.ntmps72
 go_upto_if 8 with (first | ((with_reducible refine gate_dst (N := 1) rfl ?_); refine bev (#[.int .i64 a0_0, .int .i64 a0_1, .int .i64 a0_2, .int .i64 a0_3, .string a0_4, .int .i64 a0_5, .string a0_6, .slice A0_7 l0_7.length c0_7]) 31 ?_; intro gb235 hg w3 hbox hb; have BK235 := am (hbox); have GW235 := gs hg HB; have GE235 := GW235; replace HB := sb HB hb; clear hb hbox hg; obtain ⟨Z4_0, Z4_1, Z4_2, Z4_3, Z4_4, Z4_5, Z4_6, Z4_7, F4_0, F4_1, F4_2, F4_3, F4_4, F4_5, F4_6, F4_7⟩ := cz8 BK235.out))
 (try simp only [Act.put, List.setIfInBounds_toArray, List.set_cons_zero, List.set_cons_succ])
 go_cut [3] (fun v3 wc => ∃ (kq : Nat) (x3_1 : List ByteArray), Aside0 (expr_names.j0 kq x3_1 a0_0 a0_1 a0_2 a0_3 a0_4 a0_5 a0_6 l0_7 = some r) ∧ Aside0 (kq ≤ k) ∧ Aside0 (Kd.R Kd.string 9 wc w.heap.size (fun _ => True) v3 x3_1) ∧ Aside0 (wc.heap[gb235]? = some (.cells #[.int .i64 a0_0, .int .i64 a0_1, .int .i64 a0_2, .int .i64 a0_3, .string a0_4, .int .i64 a0_5, .string a0_6, (.slice A0_7 l0_7.length c0_7)] 31 (0, 0))) ∧ Aside0 (Below w.heap.size w wc))
 case first =>
  have H := HC2.out
  clear HC2
  by_cases c5 : a0_0 = 2
  ·replace H := ipe c5 H
   obtain ⟨H, c5b0, c5b1⟩ := H
   clear c5
   (first | rw [c5b0] | (simp only [i64_w, i32_w]; rw [c5b0]) | skip)
   by_cases c6 : ([] : List ByteArray).length < 8796093022208
   ·rw [if_pos c6] at H
    have LMc6 := am c6
    clear c6
    obtain ⟨y236, hy236⟩ : ∃ y_ : List ByteArray, y_ = (([] : List ByteArray) ++ [a0_6]) := ⟨_, rfl⟩
    replace H : (expr_names.j0 k y236 a0_0 a0_1 a0_2 a0_3 a0_4 a0_5 a0_6 l0_7) = some r := by first | (rw [hy236]; with_reducible exact H) | (have H2_ := (Option.bind_some _ _).symm.trans H; rw [hy236]; with_reducible exact H2_) | (have H2_ := (Option.bind_some _ _).symm.trans H; with_reducible exact H2_) | with_reducible exact H | (rw [hy236]; exact H) | exact H
    have Ny236 := am hy236
    clear hy236
    have H' := am H
    clear H
    obtain ⟨Z7_0, Z7_1, Z7_2, Z7_3, Z7_4, Z7_5, Z7_6, Z7_7, F7_0, F7_1, F7_2, F7_3, F7_4, F7_5, F7_6, F7_7⟩ := cz8 BK235.out
    go_wp2_with (first | ((with_reducible refine gate_builtin (b := .append) (xs := #[.tmp 9, .tmp 12]) rfl ?_); at_builtin; refine Kd.R_append Kd.string (w0 := w) w.heap.size rfl (.tmp 9) (.tmp 12) 41 9 (.string ⟨#[]⟩) 16 rfl Tryz.underlying41 info9 rfl (by decide) (by omega) (.slice none 0 0) ([] : List ByteArray) a0_6 [.string a0_6] (fun _ => True) (fun _ => False) rfl rfl ?aP (fun _ hk => hk.elim) ?aF ?aO ?aB ?aS ?aL ?_; (case aP => exact rfl); (case aB => exact (bz HB.out)); (case aF => exact (fun _ _ => trivial)); (case aO => exact ((Kd.R_nil _ _ _ _ (fun _ => True)))); (case aS => exact (below_size (bz HB.out))); (case aL => have := LMc6.out; omega); intro v237 w8 ho hb hg hat; rw [← Ny236.out] at ho; replace BK235 := am (blk_grown (bk BK235.out) hg (by simp [Value.ownBlock])); replace HB := am (hb); have HO238 := am (ho); clear ho hb hg hat))
    go_meet
    case rel => exact ⟨_, (y236), H', ⟨oz⟩, ⟨rr HO238.out⟩, ⟨bk BK235.out⟩, ⟨bz HB.out⟩⟩
   rw [if_neg c6] at H
   exact absurd H (by simp)
  replace H := ine c5 H
  obtain ⟨H, c5b0, c5b1⟩ := H
  (first | rw [c5b0] | (simp only [i64_w, i32_w]; rw [c5b0]) | skip)
  have H' := am H
  clear H
  go_wp2
  go_meet
  case rel => exact ⟨_, (([] : List ByteArray)), H', ⟨oz⟩, ⟨by first | exact Kd.R_nil _ _ _ _ _ | exact Kd.N_nil _ _ _ _ _ | exact Kd.V_nil _ _ _ _ _ | exact Kd.Q_nil _ _ _ _ _ | exact Kd.S_nil _ _ _ _ _⟩, ⟨bk BK235.out⟩, ⟨bz HB.out⟩⟩
 case rest =>
  clear HC2
  try clear Z4_0; try clear Z4_1; try clear Z4_2; try clear Z4_3; try clear Z4_4; try clear Z4_5; try clear Z4_6; try clear Z4_7; try clear F4_0; try clear F4_1; try clear F4_2; try clear F4_3; try clear F4_4; try clear F4_5; try clear F4_6; try clear F4_7
  obtain ⟨kq, x3_1, HA, HJ1, HO_3, BK235, HB⟩ := hcut
  cases kq with
  | zero => exact absurd HA.out (by simp [expr_names.j0])
  | succ kj1 =>
   have H := HA.out
   clear HA
   simp only [expr_names.j0] at H
   have H' := am H
   clear H
   obtain ⟨Z9_0, Z9_1, Z9_2, Z9_3, Z9_4, Z9_5, Z9_6, Z9_7, F9_0, F9_1, F9_2, F9_3, F9_4, F9_5, F9_6, F9_7⟩ := cz8 BK235.out
   go_wp2
   (try simp only [Act.put, List.setIfInBounds_toArray, List.set_cons_succ, List.set_cons_zero])
   go_loopg [3, 17] kj1 (fun kq v3 v17 w' => ∃ (x3_2 : List ByteArray) (x17_2 : Int), v17 = .int .i64 x17_2 ∧ Aside0 (expr_names.l0 kq x3_2 l0_7 (l0_7.length : Int) x17_2 = some r) ∧ Aside0 (kq ≤ kj1) ∧ Aside0 (Kd.R Kd.string 9 w' w.heap.size (fun _ => True) v3 x3_2) ∧ Aside0 (w'.heap[gb235]? = some (.cells #[.int .i64 a0_0, .int .i64 a0_1, .int .i64 a0_2, .int .i64 a0_3, .string a0_4, .int .i64 a0_5, .string a0_6, (.slice A0_7 l0_7.length c0_7)] 31 (0, 0))) ∧ Aside0 (Below w.heap.size w w'))
   case atStart => exact ⟨(x3_1), (0), sz, H', ⟨Nat.le_refl _⟩, ⟨rr HO_3.out⟩, ⟨bk BK235.out⟩, ⟨bz HB.out⟩⟩
   case round =>
    clear H'
    try clear c5; try clear c5b0; try clear c5b1; try clear c6; try clear Z4_0; try clear Z4_1; try clear Z4_2; try clear Z4_3; try clear Z4_4; try clear Z4_5; try clear Z4_6; try clear Z4_7; try clear Z7_0; try clear Z7_1; try clear Z7_2; try clear Z7_3; try clear Z7_4; try clear Z7_5; try clear Z7_6; try clear Z7_7; try clear Z9_0; try clear Z9_1; try clear Z9_2; try clear Z9_3; try clear Z9_4; try clear Z9_5; try clear Z9_6; try clear Z9_7; try clear F4_0; try clear F4_1; try clear F4_2; try clear F4_3; try clear F4_4; try clear F4_5; try clear F4_6; try clear F4_7; try clear F7_0; try clear F7_1; try clear F7_2; try clear F7_3; try clear F7_4; try clear F7_5; try clear F7_6; try clear F7_7; try clear F9_0; try clear F9_1; try clear F9_2; try clear F9_3; try clear F9_4; try clear F9_5; try clear F9_6; try clear F9_7
    obtain ⟨x3_2, x17_2, rfl, HA, HK2, HO_3, BK235, HB⟩ := hrel
    cases gk with
    | zero => exact absurd HA.out (by simp [expr_names.l0])
    | succ k2 =>
     have H := HA.out
     clear HA
     simp only [expr_names.l0] at H
     by_cases c10 : x17_2 < (l0_7.length : Int)
     ·rw [if_pos c10] at H
      have c10b0 : decide (x17_2 < (l0_7.length : Int)) = true := decide_eq_true c10
      clear c10
      by_cases c11 : 0 ≤ x17_2
      ·rw [if_pos c11] at H
       have c11b0 : decide (0 ≤ x17_2) = true := decide_eq_true c11
       clear c11
       by_cases c12 : x17_2 < (l0_7.length : Int)
       ·rw [if_pos c12] at H
        have c12b0 : decide (x17_2 < (l0_7.length : Int)) = true := decide_eq_true c12
        clear c12
        replace H := obe H
        obtain ⟨t241, A13, H⟩ := H
        by_cases c14 : x3_2.length + t241.length < 8796093022208
        ·rw [if_pos c14] at H
         have LMc14 := am c14
         clear c14
         obtain ⟨y244, hy244⟩ : ∃ y_ : List ByteArray, y_ = (x3_2 ++ t241) := ⟨_, rfl⟩
         replace H : (expr_names.l0 k2 y244 l0_7 (l0_7.length : Int) (wrap64 (x17_2 + 1))) = some r := by first | (rw [hy244]; with_reducible exact H) | (have H2_ := (Option.bind_some _ _).symm.trans H; rw [hy244]; with_reducible exact H2_) | (have H2_ := (Option.bind_some _ _).symm.trans H; with_reducible exact H2_) | with_reducible exact H | (rw [hy244]; exact H) | exact H
         have Ny244 := am hy244
         clear hy244
         have H' := am H
         clear H
         have p239 : 0 ≤ (x17_2 : Int) := of_decide_eq_true tz
         have q239 : x17_2 < (l0_7.length : Int) := of_decide_eq_true tz
         obtain ⟨ad239, A239_7, c239_7, e239, hx239_0, hx239_1, hx239_2, hx239_3, hx239_4, hx239_5, hx239_6, hx239_7, hl239_7, hi239_7⟩ := at_T31 HR0_7.out x17_2 p239 q239
         cases e239
         replace hx239_0 := hbw HB.out hx239_0
         replace hx239_1 := hbw HB.out hx239_1
         replace hx239_2 := hbw HB.out hx239_2
         replace hx239_3 := hbw HB.out hx239_3
         replace hx239_4 := hbw HB.out hx239_4
         replace hx239_5 := hbw HB.out hx239_5
         replace hx239_6 := hbw HB.out hx239_6
         replace hx239_7 := hbw HB.out hx239_7
         have HR239_7 := am hi239_7
         have HC239_7 := am hl239_7
         clear hi239_7 hl239_7
         replace p239 := eq_true p239
         replace q239 := eq_true q239
         go_wp2_with (first | ((with_reducible refine gate_dst (N := 5) rfl ?_); refine bev (#[.int .i64 0, .int .i64 0, .int .i64 0, .int .i64 0, .string (⟨#[]⟩ : ByteArray), .int .i64 0, .string (⟨#[]⟩ : ByteArray), .slice none 0 0]) 31 ?_; intro gb240 hg w15 hbox hb; replace HO_3 := am (Kd.R_below (rr HO_3.out) hb); have BK240 := am (hbox); have GW240 := gs hg HB; have GE240 := GW240; replace HB := sb HB hb; have NB235_240 := na hg BK235; have NB240_235 := nb hg BK235; replace BK235 := kb BK235 hb; clear hb hbox hg; have hnb16 := NB240_235.out; have hnc16 := NB235_240.out; obtain ⟨Z17_0, Z17_1, Z17_2, Z17_3, Z17_4, Z17_5, Z17_6, Z17_7, F17_0, F17_1, F17_2, F17_3, F17_4, F17_5, F17_6, F17_7⟩ := cz8 BK240.out) | ((with_reducible refine gate_callee (f := 72) rfl ?_); refine gl_ (some 23) Tryz.func72 (by kernel_rfl) #[.agg #[.int .i64 ((rd_T31 l0_7 x17_2).f0), .int .i64 ((rd_T31 l0_7 x17_2).f1.f0), .int .i64 ((rd_T31 l0_7 x17_2).f1.f1.f0), .int .i64 ((rd_T31 l0_7 x17_2).f1.f1.f1), .string ((rd_T31 l0_7 x17_2).f1.f2), .int .i64 ((rd_T31 l0_7 x17_2).f1.f3), .string ((rd_T31 l0_7 x17_2).f2), .slice A239_7 ((rd_T31 l0_7 x17_2).f3).length c239_7]] rfl ?_; (with_reducible refine (ih k2 (by have := HJ1.out; have := HK2.out; omega) ((rd_T31 l0_7 x17_2).f0) ((rd_T31 l0_7 x17_2).f1.f0) ((rd_T31 l0_7 x17_2).f1.f1.f0) ((rd_T31 l0_7 x17_2).f1.f1.f1) ((rd_T31 l0_7 x17_2).f1.f2) ((rd_T31 l0_7 x17_2).f1.f3) ((rd_T31 l0_7 x17_2).f2) _ _ ((rd_T31 l0_7 x17_2).f3) t241 _ ?side1 ?side2 A13.out).mono ?_); (case side1 => exact Kd.C_below HR239_7.out (bz HB.out)); (case side2 => exact HC239_7.out); rintro e w18 ⟨v242, rfl, ho0, hb⟩; refine ⟨_, rfl, ?_⟩; have HO243 := am (Kd.R_lower (Kd.R_new' ho0 (Kd.R_lt (by (with_reducible repeat (first | apply Kd.R_alloc | apply Kd.R_drewN | apply Kd.R_drew)); exact (Kd.R_mono (Kd.R_far (p := ⟨gb240, 7, none⟩) (Kd.R_far (p := ⟨gb240, 6, none⟩) (Kd.R_far (p := ⟨gb240, 5, none⟩) (Kd.R_far (p := ⟨gb240, 4, none⟩) (Kd.R_far (p := ⟨gb240, 3, none⟩) (Kd.R_far (p := ⟨gb240, 2, none⟩) (Kd.R_far (p := ⟨gb240, 1, none⟩) (Kd.R_far (p := ⟨gb240, 0, none⟩) (Kd.R_types HO_3.out BK240.out (by decide)) (fun _ hk => hk.2) (.int .i64 ((rd_T31 l0_7 x17_2).f0))) (fun _ hk => hk.2) (.int .i64 ((rd_T31 l0_7 x17_2).f1.f0))) (fun _ hk => hk.2) (.int .i64 ((rd_T31 l0_7 x17_2).f1.f1.f0))) (fun _ hk => hk.2) (.int .i64 ((rd_T31 l0_7 x17_2).f1.f1.f1))) (fun _ hk => hk.2) (.string ((rd_T31 l0_7 x17_2).f1.f2))) (fun _ hk => hk.2) (.int .i64 ((rd_T31 l0_7 x17_2).f1.f3))) (fun _ hk => hk.2) (.string ((rd_T31 l0_7 x17_2).f2))) (fun _ hk => hk.2) (.slice A239_7 ((rd_T31 l0_7 x17_2).f3).length c239_7)) (fun _ h_ => h_.1))))) (below_size (bz HB.out))); replace HO_3 := am (Kd.R_elder' (by (with_reducible repeat (first | apply Kd.R_alloc | apply Kd.R_drewN | apply Kd.R_drew)); exact (Kd.R_mono (Kd.R_far (p := ⟨gb240, 7, none⟩) (Kd.R_far (p := ⟨gb240, 6, none⟩) (Kd.R_far (p := ⟨gb240, 5, none⟩) (Kd.R_far (p := ⟨gb240, 4, none⟩) (Kd.R_far (p := ⟨gb240, 3, none⟩) (Kd.R_far (p := ⟨gb240, 2, none⟩) (Kd.R_far (p := ⟨gb240, 1, none⟩) (Kd.R_far (p := ⟨gb240, 0, none⟩) (Kd.R_types HO_3.out BK240.out (by decide)) (fun _ hk => hk.2) (.int .i64 ((rd_T31 l0_7 x17_2).f0))) (fun _ hk => hk.2) (.int .i64 ((rd_T31 l0_7 x17_2).f1.f0))) (fun _ hk => hk.2) (.int .i64 ((rd_T31 l0_7 x17_2).f1.f1.f0))) (fun _ hk => hk.2) (.int .i64 ((rd_T31 l0_7 x17_2).f1.f1.f1))) (fun _ hk => hk.2) (.string ((rd_T31 l0_7 x17_2).f1.f2))) (fun _ hk => hk.2) (.int .i64 ((rd_T31 l0_7 x17_2).f1.f3))) (fun _ hk => hk.2) (.string ((rd_T31 l0_7 x17_2).f2))) (fun _ hk => hk.2) (.slice A239_7 ((rd_T31 l0_7 x17_2).f3).length c239_7)) (fun _ h_ => h_.1))) (Kd.R_base ho0) hb); replace BK235 := am (blk_below (g := gb235) (o := .cells #[.int .i64 a0_0, .int .i64 a0_1, .int .i64 a0_2, .int .i64 a0_3, .string a0_4, .int .i64 a0_5, .string a0_6, .slice (some ad239) l0_7.length c0_7] 31 (0, 0)) (bp BK235.out) hb); replace BK240 := am (blk_below (g := gb240) (o := .cells #[.int .i64 ((rd_T31 l0_7 x17_2).f0), .int .i64 ((rd_T31 l0_7 x17_2).f1.f0), .int .i64 ((rd_T31 l0_7 x17_2).f1.f1.f0), .int .i64 ((rd_T31 l0_7 x17_2).f1.f1.f1), .string ((rd_T31 l0_7 x17_2).f1.f2), .int .i64 ((rd_T31 l0_7 x17_2).f1.f3), .string ((rd_T31 l0_7 x17_2).f2), .slice A239_7 ((rd_T31 l0_7 x17_2).f3).length c239_7] 31 (0, 0)) (bp BK240.out) hb); replace HB := sb HB hb; clear hb ho0; obtain ⟨Ao20, co20, eo20⟩ := Kd.R_slice HO243.out; subst eo20) | ((with_reducible refine gate_builtin (b := .append) (xs := #[.tmp 21, .tmp 23]) rfl ?_); at_builtin; refine Kd.R_append_rows Kd.string (w0 := w) w.heap.size rfl (.tmp 21) (.tmp 23) 41 9 (.string ⟨#[]⟩) 16 rfl Tryz.underlying41 info9 rfl (by decide) (by omega) u3 x3_2 t241 _ _ _ (fun k_ => some k_ ≠ (.slice Ao20 t241.length co20 : Value).ownBlock) (fun _ => False) rfl rfl ?aO ?aR (fun _ _ h => h) (fun _ h => h.elim) ?aF ?aB ?aS ?aL ?_; (case aR => repeat (first | exact (Kd.R_reads' HO243.out).2.2 | (with_reducible refine Kd.C_alloc ?_ _) | (with_reducible refine Kd.C_drewN ?_ _) | (with_reducible refine Kd.C_drew ?_))); (case aB => exact (bz HB.out)); (case aF => exact (fun k_ hk => Kd.fresh' (Kd.R_lt (rr HO243.out)) k_ hk)); (case aO => exact (by (with_reducible repeat (first | apply Kd.R_alloc | apply Kd.R_drewN | apply Kd.R_drew)); exact Kd.R_mono HO_3.out (fun _ hk => hk.2))); (case aS => exact (below_size (bz HB.out))); (case aL => have := LMc14.out; omega); intro v245 w19 ho hb hg hat; rw [← Ny244.out] at ho; replace BK235 := am (blk_grown (bk BK235.out) hg (Kd.R_ne HO_3.out BK235.out (by decide))); replace BK240 := am (blk_grown (bk BK240.out) hg (Kd.R_ne HO_3.out BK240.out (by decide))); replace HO243 := am (Kd.R_after (ok := (fun _ => True)) (rr HO243.out) hg hat); replace HB := am (hb); have HO246 := am (ho); clear HO_3 ho hb hg hat))
         go_roundg k2
         case measure => have := HJ1.out; have := HK2.out; omega
         case rel => exact ⟨(y244), (wrap64 (x17_2 + 1)), sz, H', ⟨by have := HJ1.out; have := HK2.out; omega⟩, ⟨by (with_reducible repeat (first | apply Kd.R_alloc | apply Kd.R_drewN | apply Kd.R_drew)); exact Kd.R_mono HO246.out (fun _ hk => trivial)⟩, ⟨bk BK235.out⟩, ⟨bz HB.out⟩⟩
        rw [if_neg c14] at H
        exact absurd H (by simp)
       rw [if_neg c12] at H
       exact absurd H (by simp)
      rw [if_neg c11] at H
      exact absurd H (by simp)
     rw [if_neg c10] at H
     have c10b0 : decide (x17_2 < (l0_7.length : Int)) = false := decide_eq_false c10
     clear c10
     obtain rfl := Option.some.inj H
     go_wp2
     go_ret
     exact ⟨_, az, rr HO_3.out, bz HB.out⟩
end Go.Proofs.YtgkemhgihbfmmaaGreatDoor.PA
end
section
namespace Go.Proofs.YtgkemhgihbfmmaaGreatDoor.PA
open Go.RowKit Go.Proofs.YtgkemhgihbfmmaaGreatDoorW.PrintWords Go.Proofs.YtgkemhgihbfmmaaGreatDoorW.PrintLast Go.Proofs.YtgkemhgihbfmmaaGreatDoorW.PrintMore
attribute [local go_sem] max2_int min2_int max_two min_two max_three min_three max_four min_four isSome_set str_gtr
set_option linter.unusedVariables false
set_option linter.unusedSimpArgs false
end Go.Proofs.YtgkemhgihbfmmaaGreatDoor.PA
end
section
namespace Go.Proofs.YtgkemhgihbfmmaaGreatDoor.PA
open Go.RowKit Go.Proofs.YtgkemhgihbfmmaaGreatDoorW.PrintWords Go.Proofs.YtgkemhgihbfmmaaGreatDoorW.PrintLast Go.Proofs.YtgkemhgihbfmmaaGreatDoorW.PrintMore
attribute [local go_sem] max2_int min2_int max_two min_two max_three min_three max_four min_four isSome_set str_gtr
set_option linter.unusedVariables false
set_option linter.unusedSimpArgs false
def IsS63 (w0 W : World) (g : Nat) (f0 : List (S136)) (f1 f2 f3 f4 f5 : Int) : Prop := ∃ A0 c0, W.heap[g]? = some (.cells #[.slice A0 f0.length c0, .int .i64 f1, .int .i64 f2, .int .i64 f3, .int .i64 f4, .int .i64 f5] 63 (0, 0)) ∧ w0.heap.size ≤ g ∧ Kd.C k136 w0 A0 f0.length f0
theorem IsS63.grown {w0 W : World} {g : Nat} {f0 : List (S136)} {f1 : Int} {f2 : Int} {f3 : Int} {f4 : Int} {f5 : Int} {W1 : World} {row : Option Nat} (h : IsS63 w0 W g f0 f1 f2 f3 f4 f5) (hw : W.grownBy W1 row) (hne : some g ≠ row) : IsS63 w0 W1 g f0 f1 f2 f3 f4 f5 := by
 obtain ⟨A0, c0, hb, hg, hr0⟩ := h
 exact ⟨A0, c0, blk_grown hb hw hne, hg, hr0⟩
theorem IsS63.own_neN {w0 W : World} {g : Nat} {f0 : List (S136)} {f1 : Int} {f2 : Int} {f3 : Int} {f4 : Int} {f5 : Int} {α : Type} {d : Kd α} {e : Nat} {base : Nat} {ok : Nat → Prop} {v : Value} {xs : List α} (h : IsS63 w0 W g f0 f1 f2 f3 f4 f5) (ho : Kd.N d e W base ok v xs) (ht : e ≠ 63) : some g ≠ v.ownBlock := by
 obtain ⟨A0, c0, hb, hg, hr0⟩ := h
 exact Kd.N_ne ho hb ht
theorem IsS63.fresh {w0 W : World} {g : Nat} {f0 : List (S136)} {f1 : Int} {f2 : Int} {f3 : Int} {f4 : Int} {f5 : Int} (h : IsS63 w0 W g f0 f1 f2 f3 f4 f5) : ∀ k, W.heap.size ≤ k → k ≠ g := by
 obtain ⟨A0, c0, hb, hg, hr0⟩ := h
 exact Kd.freshB hb
theorem IsS63.below {w0 W : World} {g : Nat} {f0 : List (S136)} {f1 : Int} {f2 : Int} {f3 : Int} {f4 : Int} {f5 : Int} {W1 : World} (h : IsS63 w0 W g f0 f1 f2 f3 f4 f5) (hw : Below W.heap.size W W1) : IsS63 w0 W1 g f0 f1 f2 f3 f4 f5 := h.grown (grown_of_below hw none) (by simp)
theorem IsS63.drewN {w0 W : World} {g : Nat} {f0 : List (S136)} {f1 : Int} {f2 : Int} {f3 : Int} {f4 : Int} {f5 : Int} (h : IsS63 w0 W g f0 f1 f2 f3 f4 f5) (m : Nat) : IsS63 w0 (W.drewN m) g f0 f1 f2 f3 f4 f5 := h
theorem IsS63.drew {w0 W : World} {g : Nat} {f0 : List (S136)} {f1 : Int} {f2 : Int} {f3 : Int} {f4 : Int} {f5 : Int} (h : IsS63 w0 W g f0 f1 f2 f3 f4 f5) : IsS63 w0 W.drew g f0 f1 f2 f3 f4 f5 := h
theorem IsS63.lt {w0 W : World} {g : Nat} {f0 : List (S136)} {f1 : Int} {f2 : Int} {f3 : Int} {f4 : Int} {f5 : Int} (h : IsS63 w0 W g f0 f1 f2 f3 f4 f5) : g < W.heap.size := by
 obtain ⟨A0, c0, hb, hg, hr0⟩ := h
 exact blk_lt hb
theorem IsS63.ge {w0 W : World} {g : Nat} {f0 : List (S136)} {f1 : Int} {f2 : Int} {f3 : Int} {f4 : Int} {f5 : Int} (h : IsS63 w0 W g f0 f1 f2 f3 f4 f5) : w0.heap.size ≤ g := by
 obtain ⟨A0, c0, hb, hg, hr0⟩ := h
 exact hg
theorem IsS63.ne_blk {w0 W : World} {g : Nat} {f0 : List (S136)} {f1 : Int} {f2 : Int} {f3 : Int} {f4 : Int} {f5 : Int} {a : Nat} {cs : Array Value} {t : TypeId} {fr : Nat × Nat} (h : IsS63 w0 W g f0 f1 f2 f3 f4 f5) (hb2 : W.heap[a]? = some (.cells cs t fr)) (ht : t ≠ 63) : g ≠ a := by
 obtain ⟨A0, c0, hb, hg, hr0⟩ := h
 rintro rfl
 rw [hb] at hb2
 injection hb2 with hb2
 injection hb2 with _ ht2
 exact ht ht2.symm
theorem IsS63.far {w0 W : World} {g : Nat} {f0 : List (S136)} {f1 : Int} {f2 : Int} {f3 : Int} {f4 : Int} {f5 : Int} {p : Addr} (h : IsS63 w0 W g f0 f1 f2 f3 f4 f5) (hne : g ≠ p.block) (u : Value) : IsS63 w0 (W.setCell p u) g f0 f1 f2 f3 f4 f5 := by
 obtain ⟨A0, c0, hb, hg, hr0⟩ := h
 exact ⟨A0, c0, blk_far hb hne u, hg, hr0⟩
theorem cellS63_0 {W : World} {g : Nat} {A0 : Option Addr} {c0 : Nat} {f0 : List (S136)} {f1 : Int} {f2 : Int} {f3 : Int} {f4 : Int} {f5 : Int} (h : W.heap[g]? = some (.cells #[.slice A0 f0.length c0, .int .i64 f1, .int .i64 f2, .int .i64 f3, .int .i64 f4, .int .i64 f5] 63 (0, 0))) : W.cell? ⟨g, 0, none⟩ = some (.slice A0 f0.length c0) := (blk_cell h 0).trans rfl
theorem cellS63_1 {W : World} {g : Nat} {A0 : Option Addr} {c0 : Nat} {f0 : List (S136)} {f1 : Int} {f2 : Int} {f3 : Int} {f4 : Int} {f5 : Int} (h : W.heap[g]? = some (.cells #[.slice A0 f0.length c0, .int .i64 f1, .int .i64 f2, .int .i64 f3, .int .i64 f4, .int .i64 f5] 63 (0, 0))) : W.cell? ⟨g, 1, none⟩ = some (.int .i64 f1) := (blk_cell h 1).trans rfl
theorem IsS63.set_1 {w0 W : World} {g : Nat} {f0 : List (S136)} {f1 : Int} {f2 : Int} {f3 : Int} {f4 : Int} {f5 : Int} (h : IsS63 w0 W g f0 f1 f2 f3 f4 f5) (x : Int) : IsS63 w0 (W.setCell ⟨g, 1, none⟩ (.int .i64 x)) g f0 x f2 f3 f4 f5 := by
 obtain ⟨A0, c0, hb, hg, hr0⟩ := h
 exact ⟨A0, c0, by simpa using blk_set hb 1 (.int .i64 x), hg, hr0⟩
theorem cellS63_2 {W : World} {g : Nat} {A0 : Option Addr} {c0 : Nat} {f0 : List (S136)} {f1 : Int} {f2 : Int} {f3 : Int} {f4 : Int} {f5 : Int} (h : W.heap[g]? = some (.cells #[.slice A0 f0.length c0, .int .i64 f1, .int .i64 f2, .int .i64 f3, .int .i64 f4, .int .i64 f5] 63 (0, 0))) : W.cell? ⟨g, 2, none⟩ = some (.int .i64 f2) := (blk_cell h 2).trans rfl
theorem cellS63_3 {W : World} {g : Nat} {A0 : Option Addr} {c0 : Nat} {f0 : List (S136)} {f1 : Int} {f2 : Int} {f3 : Int} {f4 : Int} {f5 : Int} (h : W.heap[g]? = some (.cells #[.slice A0 f0.length c0, .int .i64 f1, .int .i64 f2, .int .i64 f3, .int .i64 f4, .int .i64 f5] 63 (0, 0))) : W.cell? ⟨g, 3, none⟩ = some (.int .i64 f3) := (blk_cell h 3).trans rfl
theorem cellS63_4 {W : World} {g : Nat} {A0 : Option Addr} {c0 : Nat} {f0 : List (S136)} {f1 : Int} {f2 : Int} {f3 : Int} {f4 : Int} {f5 : Int} (h : W.heap[g]? = some (.cells #[.slice A0 f0.length c0, .int .i64 f1, .int .i64 f2, .int .i64 f3, .int .i64 f4, .int .i64 f5] 63 (0, 0))) : W.cell? ⟨g, 4, none⟩ = some (.int .i64 f4) := (blk_cell h 4).trans rfl
theorem cellS63_5 {W : World} {g : Nat} {A0 : Option Addr} {c0 : Nat} {f0 : List (S136)} {f1 : Int} {f2 : Int} {f3 : Int} {f4 : Int} {f5 : Int} (h : W.heap[g]? = some (.cells #[.slice A0 f0.length c0, .int .i64 f1, .int .i64 f2, .int .i64 f3, .int .i64 f4, .int .i64 f5] 63 (0, 0))) : W.cell? ⟨g, 5, none⟩ = some (.int .i64 f5) := (blk_cell h 5).trans rfl
theorem IsS63.set_5 {w0 W : World} {g : Nat} {f0 : List (S136)} {f1 : Int} {f2 : Int} {f3 : Int} {f4 : Int} {f5 : Int} (h : IsS63 w0 W g f0 f1 f2 f3 f4 f5) (x : Int) : IsS63 w0 (W.setCell ⟨g, 5, none⟩ (.int .i64 x)) g f0 f1 f2 f3 f4 x := by
 obtain ⟨A0, c0, hb, hg, hr0⟩ := h
 exact ⟨A0, c0, by simpa using blk_set hb 5 (.int .i64 x), hg, hr0⟩
theorem open63 {w0 W : World} {g : Nat} {f0 : List (S136)} {f1 f2 f3 f4 f5 : Int} (h : IsS63 w0 W g f0 f1 f2 f3 f4 f5) : ∃ A c, Kd.C k136 w0 A f0.length f0 ∧ W.cell? ⟨g, 0, none⟩ = some (.slice A f0.length c) ∧ W.cell? ⟨g, 1, none⟩ = some (.int .i64 f1) ∧ W.cell? ⟨g, 2, none⟩ = some (.int .i64 f2) ∧ W.cell? ⟨g, 3, none⟩ = some (.int .i64 f3) ∧ W.cell? ⟨g, 4, none⟩ = some (.int .i64 f4) ∧ W.cell? ⟨g, 5, none⟩ = some (.int .i64 f5) ∧
  W.frozen? ⟨g, 1, none⟩ = false ∧ W.frozen? ⟨g, 2, none⟩ = false ∧ W.frozen? ⟨g, 3, none⟩ = false ∧ W.frozen? ⟨g, 4, none⟩ = false ∧ W.frozen? ⟨g, 5, none⟩ = false := by
 obtain ⟨A, c, hb, hg, hr⟩ := h
 exact ⟨A, c, hr, cellS63_0 hb, cellS63_1 hb, cellS63_2 hb, cellS63_3 hb, cellS63_4 hb, cellS63_5 hb, blk_frozen hb 1, blk_frozen hb 2, blk_frozen hb 3, blk_frozen hb 4, blk_frozen hb 5⟩
def expr_Parser_Is.j0 : Nat → Bool → List (S136) → Int → Int → Int → Int → Int → Option (Bool × Int × Int × Int × Int × Int)
 | 0, _, _, _, _, _, _, _ => none
 | k + 1, x4, x1000, x1001, x1002, x1003, x1004, x1005 => some (x4, x1001, x1002, x1003, x1004, x1005)
def expr_Parser_Is.f (k : Nat) (s0_0 : List (S136)) (s0_1 s0_2 s0_3 s0_4 s0_5 : Int) (a1 : ByteArray) : Option (Bool × Int × Int × Int × Int × Int) := if s0_4 = 0 then (if s0_1 ≥ (s0_0.length : Int) then (some (false, s0_1, s0_2, s0_3, s0_4, s0_5)) else (if 0 ≤ s0_1 then (if s0_1 < (s0_0.length : Int) then (if ((rd_T136 s0_0 s0_1).f0) = 4 then (expr_Parser_Is.j0 k (((rd_T136 s0_0 s0_1).f2).toList == a1.toList) s0_0 s0_1 s0_2 s0_3 s0_4 s0_5) else (if ((rd_T136 s0_0 s0_1).f0) = 5 then (expr_Parser_Is.j0 k (((rd_T136 s0_0 s0_1).f2).toList == a1.toList) s0_0 s0_1 s0_2 s0_3 s0_4 s0_5) else (expr_Parser_Is.j0 k false s0_0 s0_1 s0_2 s0_3 s0_4 s0_5))) else (none)) else (none))) else (some (false, s0_1, s0_2, s0_3, s0_4, s0_5))
theorem expr_Parser_Is.mono_l : ∀ k, (∀ y0 y1 y2 y3 y4 y5 y6, LeO (expr_Parser_Is.j0 k y0 y1 y2 y3 y4 y5 y6) (expr_Parser_Is.j0 (k + 1) y0 y1 y2 y3 y4 y5 y6))
 | 0 => fun _ _ _ _ _ _ _ r h => by simp [expr_Parser_Is.j0] at h
 | k + 1 => by
  have ih0 := expr_Parser_Is.mono_l k
  ·intro y0 y1 y2 y3 y4 y5 y6
   unfold expr_Parser_Is.j0
   exact lmo
theorem expr_Parser_Is.mono : ∀ a0 a1 a2 a3 a4 a5 a6 k, LeO (expr_Parser_Is.f k a0 a1 a2 a3 a4 a5 a6) (expr_Parser_Is.f (k + 1) a0 a1 a2 a3 a4 a5 a6) := by
 intro a0 a1 a2 a3 a4 a5 a6 k
 have ih0 := expr_Parser_Is.mono_l k
 unfold expr_Parser_Is.f
 exact lmo
def expr_Parser_Is.T1 : Bool × List (List Nat × List Nat) := (true, [([], []), ([0], [0]), ([1], [1]), ([2], [2]), ([3], [3]), ([4], [4]), ([5], [5]), ([6, 5], [5, 6]), ([7, 5], [5, 7]), ([8, 5], [5, 8]), ([5], [5]), ([10, 5], [5, 10]), ([11, 5], [5, 11]), ([12, 5], [5, 12]), ([13, 5], [5, 13]), ([9, 14, 5], [5, 9, 14]), ([5, 15], [5, 15])])
def expr_Parser_Is.B1 : List Nat := [0, 1, 3, 7, 15, 31, 63, 127, 255, 511, 63, 1087, 3135, 7231, 15423, 32767, 65535]
theorem expr_Parser_Is.tab1 : rtab .any (opsOf Tryz.f107 1) = expr_Parser_Is.T1 := by kernel_rfl
theorem expr_Parser_Is.bits1 : waitsOk expr_Parser_Is.T1.2 expr_Parser_Is.B1 = true := by kernel_rfl
def expr_Parser_Is.T3 : Bool × List (List Nat × List Nat) := (true, [([], []), ([0], [0]), ([1], [1]), ([2], [2]), ([], []), ([4], [4]), ([5], [5]), ([6], [6]), ([3, 7], [3, 7]), ([8], [8]), ([], []), ([10, 9, 0, 1, 2, 3, 4, 5, 6, 7, 8, 9, 10], [9, 10])])
def expr_Parser_Is.B3 : List Nat := [0, 1, 3, 7, 0, 16, 48, 112, 255, 511, 0, 2047]
theorem expr_Parser_Is.tab3 : rtab .any (opsOf Tryz.f107 3) = expr_Parser_Is.T3 := by kernel_rfl
theorem expr_Parser_Is.bits3 : waitsOk expr_Parser_Is.T3.2 expr_Parser_Is.B3 = true := by kernel_rfl
set_option maxHeartbeats 8000000 in
set_option maxRecDepth 100000 in
theorem expr_Parser_Is.calls (k : Nat) (g : Nat) (s0_0 : List (S136)) (s0_1 s0_2 s0_3 s0_4 s0_5 : Int) (a1 : ByteArray) (r1 : Bool) (r2 r3 r4 r5 r6 : Int) (w0 w : World) (hI : IsS63 w0 w g s0_0 s0_1 s0_2 s0_3 s0_4 s0_5) (hB : Below w0.heap.size w0 w) (h : expr_Parser_Is.f k s0_0 s0_1 s0_2 s0_3 s0_4 s0_5 a1 = some (r1, r2, r3, r4, r5, r6)) :
  Calls Tryz.prog 107 #[.pointer (some ⟨g, 0, none⟩), .string a1] w fun e w' => e = .returned (.bool r1) ∧ IsS63 w0 w' g s0_0 r2 r3 r4 r5 r6 ∧ Below w0.heap.size w0 w' ∧ KeepBut w w' g none := by
 have hu136 := Tryz.underlying136
 have HI0 := am hI
 have HK := am (KeepBut.refl w g none)
 have HL := am hB.size
 clear hI
 have HW0 := am hB.size
 have HB := am hB
 clear hB
 have H : (if s0_4 = 0 then (if s0_1 ≥ (s0_0.length : Int) then (some (false, s0_1, s0_2, s0_3, s0_4, s0_5)) else (if 0 ≤ s0_1 then (if s0_1 < (s0_0.length : Int) then (if ((rd_T136 s0_0 s0_1).f0) = 4 then (expr_Parser_Is.j0 k (((rd_T136 s0_0 s0_1).f2).toList == a1.toList) s0_0 s0_1 s0_2 s0_3 s0_4 s0_5) else (if ((rd_T136 s0_0 s0_1).f0) = 5 then (expr_Parser_Is.j0 k (((rd_T136 s0_0 s0_1).f2).toList == a1.toList) s0_0 s0_1 s0_2 s0_3 s0_4 s0_5) else (expr_Parser_Is.j0 k false s0_0 s0_1 s0_2 s0_3 s0_4 s0_5))) else (none)) else (none))) else (some (false, s0_1, s0_2, s0_3, s0_4, s0_5))) = some (r1, r2, r3, r4, r5, r6) := h
 clear h
 by_cases c3 : s0_4 = 0
 ·replace H := ipe c3 H
  obtain ⟨H, c3b0, c3b1⟩ := H
  clear c3
  have HC4 := am H
  clear H
  go_enter Tryz.func107, Tryz.ntmps107
  try go_wp2
  replace HI0 := am (IsS63.drew HI0.out)
  replace HK := am (keep_drew HK.out)
  replace HB := am (below_drew1 HB.out)
  obtain ⟨ASz6_0, cSz6_0, HSz6_0, Z6_0, Z6_1, Z6_2, Z6_3, Z6_4, Z6_5, F6_1, F6_2, F6_3, F6_4, F6_5⟩ := open63 HI0.out
  refine start_ (n := 17) (S := fun w' => w'.cell? ⟨g, 0, none⟩ = some (.slice ASz6_0 s0_0.length cSz6_0) ∧ w'.cell? ⟨g, 1, none⟩ = some (.int .i64 s0_1) ∧ w'.cell? ⟨g, 2, none⟩ = some (.int .i64 s0_2) ∧ w'.cell? ⟨g, 3, none⟩ = some (.int .i64 s0_3) ∧ w'.cell? ⟨g, 4, none⟩ = some (.int .i64 s0_4) ∧ w'.cell? ⟨g, 5, none⟩ = some (.int .i64 s0_5)) (ds := []) (bts0 17) (by kernel_rfl) rfl rfl ⟨Z6_0, Z6_1, Z6_2, Z6_3, Z6_4, Z6_5⟩ (fun hHeld => ?_); refine with_tabW expr_Parser_Is.tab1 expr_Parser_Is.bits1 (fun HT_ HW_ => ?_)
  generalize w.drew = w5 at HI0 HK HB hHeld ⊢
  refine pu 0 (some 6) (bts 17 1) (any_of HT_.out (by kernel_rfl)) ?_
  refine pu 1 (some 7) (bts 17 3) (any_of HT_.out (by kernel_rfl)) ?_
  refine pu 2 (some 8) (bts 17 7) (any_of HT_.out (by kernel_rfl)) ?_
  refine ta 3 (some 9) (bts 17 15) (take_ofW HT_.out HW_.out (by kernel_rfl)) hHeld ?_
  refine pu 4 (some 10) (bts 17 31) (any_of HT_.out (by kernel_rfl)) ?_
  refine pu 5 (some 11) (bts 17 63) (any_of HT_.out (by kernel_rfl)) ?_
  refine pu 6 (some 12) (bts 17 127) (any_of HT_.out (by kernel_rfl)) ?_
  refine pu 7 (some 13) (bts 17 255) (any_of HT_.out (by kernel_rfl)) ?_
  refine pu 8 (some 14) (bts 17 511) (any_of HT_.out (by kernel_rfl)) ?_
  refine pu 10 (some 16) (bts 17 1535) (any_of HT_.out (by kernel_rfl)) ?_
  refine pu 11 (some 17) (bts 17 3583) (any_of HT_.out (by kernel_rfl)) ?_
  refine pu 12 (some 18) (bts 17 7679) (any_of HT_.out (by kernel_rfl)) ?_
  refine ta 9 (some 15) (bts 17 8191) (take_ofW HT_.out HW_.out (by kernel_rfl)) hHeld ?_
  refine ta 13 (some 19) (bts 17 16383) (take_ofW HT_.out HW_.out (by kernel_rfl)) hHeld ?_
  refine pu 14 (some 20) (bts 17 32767) (any_of HT_.out (by kernel_rfl)) ?_
  refine pu 15 (some 21) (bts 17 65535) (any_of HT_.out (by kernel_rfl)) ?_
  refine pu 16 (some 22) (bts 17 131071) (any_of HT_.out (by kernel_rfl)) ?_
  refine done_ (done_of HT_.out (by kernel_rfl)) ?_
  go_upto_if 22 with (fail)
  have H := HC4.out
  clear HC4
  clear Z6_0 Z6_1 Z6_2 Z6_3 Z6_4 Z6_5 F6_1 F6_2 F6_3 F6_4 F6_5
  by_cases c7 : s0_1 ≥ (s0_0.length : Int)
  ·rw [if_pos c7] at H
   have c7b0 : decide ((s0_0.length : Int) ≤ s0_1) = true := decide_eq_true c7
   clear c7
   (first | rw [c7b0] | (simp only [i64_w, i32_w]; rw [c7b0]) | skip)
   simp only [Option.some.injEq, Prod.mk.injEq] at H
   obtain ⟨rfl, rfl, rfl, rfl, rfl, rfl⟩ := H
   go_wp2
   go_ret
   exact ⟨az, hz HI0.out, bz HB.out, kz HK.out⟩
  rw [if_neg c7] at H
  have c7b0 : decide ((s0_0.length : Int) ≤ s0_1) = false := decide_eq_false c7
  clear c7
  (first | rw [c7b0] | (simp only [i64_w, i32_w]; rw [c7b0]) | skip)
  by_cases c8 : 0 ≤ s0_1
  ·rw [if_pos c8] at H
   have c8b0 : decide (0 ≤ s0_1) = true := decide_eq_true c8
   clear c8
   by_cases c9 : s0_1 < (s0_0.length : Int)
   ·rw [if_pos c9] at H
    have c9b0 : decide (s0_1 < (s0_0.length : Int)) = true := decide_eq_true c9
    clear c9
    have HC10 := am H
    clear H
    try go_wp2
    replace HI0 := am (IsS63.drew HI0.out)
    replace HK := am (keep_drew HK.out)
    replace HB := am (below_drew1 HB.out)
    obtain ⟨ASz12_0, cSz12_0, HSz12_0, Z12_0, Z12_1, Z12_2, Z12_3, Z12_4, Z12_5, F12_1, F12_2, F12_3, F12_4, F12_5⟩ := open63 HI0.out
    have p247 : 0 ≤ (s0_1 : Int) := of_decide_eq_true tz
    have q247 : s0_1 < (s0_0.length : Int) := of_decide_eq_true tz
    obtain ⟨ad247, e247, hx247_0, hx247_1, hx247_2, hx247_3, hx247_4, hx247_5⟩ := at_T136 HSz12_0 s0_1 p247 q247
    have hw247_5 := hx247_5
    have hw247_4 := hx247_4
    have hw247_3 := hx247_3
    have hw247_2 := hx247_2
    have hw247_1 := hx247_1
    have hw247_0 := hx247_0
    cases e247
    replace hx247_0 := pw_cell_below HB.out hx247_0
    replace hx247_1 := pw_cell_below HB.out hx247_1
    replace hx247_2 := pw_cell_below HB.out hx247_2
    replace hx247_3 := pw_cell_below HB.out hx247_3
    replace hx247_4 := pw_cell_below HB.out hx247_4
    replace hx247_5 := pw_cell_below HB.out hx247_5
    replace p247 := eq_true p247
    replace q247 := eq_true q247
    refine start_ (n := 12) (S := fun w' => w'.cell? ⟨g, 0, none⟩ = some (.slice (some ad247) s0_0.length cSz12_0) ∧ w'.cell? ⟨g, 1, none⟩ = some (.int .i64 s0_1) ∧ w'.cell? ⟨g, 2, none⟩ = some (.int .i64 s0_2) ∧ w'.cell? ⟨g, 3, none⟩ = some (.int .i64 s0_3) ∧ w'.cell? ⟨g, 4, none⟩ = some (.int .i64 s0_4) ∧ w'.cell? ⟨g, 5, none⟩ = some (.int .i64 s0_5) ∧ w'.cell? (ad247.add ((s0_1).toNat * 6)) = some (.int .i64 ((rd_T136 s0_0 s0_1).f0)) ∧ w'.cell? ⟨(ad247.add ((s0_1).toNat * 6)).block, (ad247.add ((s0_1).toNat * 6)).off + 1, none⟩ = some (.int .i64 ((rd_T136 s0_0 s0_1).f1)) ∧ w'.cell? ⟨(ad247.add ((s0_1).toNat * 6)).block, (ad247.add ((s0_1).toNat * 6)).off + 2, none⟩ = some (.string ((rd_T136 s0_0 s0_1).f2)) ∧ w'.cell? ⟨(ad247.add ((s0_1).toNat * 6)).block, (ad247.add ((s0_1).toNat * 6)).off + 3, none⟩ = some (.int .i64 ((rd_T136 s0_0 s0_1).f3.f0)) ∧ w'.cell? ⟨(ad247.add ((s0_1).toNat * 6)).block, (ad247.add ((s0_1).toNat * 6)).off + 4, none⟩ = some (.int .i64 ((rd_T136 s0_0 s0_1).f3.f1)) ∧ w'.cell? ⟨(ad247.add ((s0_1).toNat * 6)).block, (ad247.add ((s0_1).toNat * 6)).off + 5, none⟩ = some (.int .i64 ((rd_T136 s0_0 s0_1).f4))) (ds := []) (bts0 12) (by kernel_rfl) rfl rfl ⟨Z12_0, Z12_1, Z12_2, Z12_3, Z12_4, Z12_5, (hbw HB.out hw247_0), (hbw HB.out hw247_1), (hbw HB.out hw247_2), (hbw HB.out hw247_3), (hbw HB.out hw247_4), (hbw HB.out hw247_5)⟩ (fun hHeld => ?_); refine with_tabW expr_Parser_Is.tab3 expr_Parser_Is.bits3 (fun HT_ HW_ => ?_)
    generalize w5.drew = w11 at HI0 HK HB hx247_0 hx247_1 hx247_2 hx247_3 hx247_4 hx247_5 hHeld ⊢
    refine pu 0 (some 23) (bts 12 1) (any_of HT_.out (by kernel_rfl)) ?_
    refine pu 1 (some 24) (bts 12 3) (any_of HT_.out (by kernel_rfl)) ?_
    refine pu 2 (some 25) (bts 12 7) (any_of HT_.out (by kernel_rfl)) ?_
    refine pu 4 (some 27) (bts 12 23) (any_of HT_.out (by kernel_rfl)) ?_
    refine pu 5 (some 28) (bts 12 55) (any_of HT_.out (by kernel_rfl)) ?_
    refine pu 6 (some 29) (bts 12 119) (any_of HT_.out (by kernel_rfl)) ?_
    refine ta 3 (some 26) (bts 12 127) (take_ofW HT_.out HW_.out (by kernel_rfl)) hHeld ?_
    refine ta 7 (some 30) (bts 12 255) (take_ofW HT_.out HW_.out (by kernel_rfl)) hHeld ?_
    refine pu 8 (some 31) (bts 12 511) (any_of HT_.out (by kernel_rfl)) ?_
    refine ta 9 (some 32) (bts 12 1023) (take_ofW HT_.out HW_.out (by kernel_rfl)) hHeld ?_
    refine one_ (i := 10) (N := some 5) (bts 12 2047) rfl rfl (one_of HT_.out (by kernel_rfl)) (by decide) (fun K hK => ?_)
    refine box_step ?hg (N := 5) ?hd (cs := #[.int .i64 0, .int .i64 0, .string (⟨#[]⟩ : ByteArray), .int .i64 0, .int .i64 0, .int .i64 0]) (t := 136) ?hr ?_; (case hd => rfl); (case hg => rfl); (case hr => first | (go_simp; done) | (go_simp; rfl))
    intro gb248 hg w13 hbox hb
    have HS0_ := (hb.cell (World.block_lt_of_cell? _ _ (hHeld.1))).trans (hHeld.1)
    have HS1_ := (hb.cell (World.block_lt_of_cell? _ _ (hHeld.2.1))).trans (hHeld.2.1)
    have HS2_ := (hb.cell (World.block_lt_of_cell? _ _ (hHeld.2.2.1))).trans (hHeld.2.2.1)
    have HS3_ := (hb.cell (World.block_lt_of_cell? _ _ (hHeld.2.2.2.1))).trans (hHeld.2.2.2.1)
    have HS4_ := (hb.cell (World.block_lt_of_cell? _ _ (hHeld.2.2.2.2.1))).trans (hHeld.2.2.2.2.1)
    have HS5_ := (hb.cell (World.block_lt_of_cell? _ _ (hHeld.2.2.2.2.2.1))).trans (hHeld.2.2.2.2.2.1)
    replace HB := sb HB hb
    have BK248 := am (hbox)
    have GW248 := gk hg HK
    have GE248 := am (Nat.le_trans HW0.out GW248.out)
    replace HK := am (KeepBut.trans (kz HK.out) (KeepBut.of_below hb g none) (.inl rfl))
    have NB0_248 := am ((nlt (a := g) hg (IsS63.lt (show IsS63 w0 _ g s0_0 s0_1 s0_2 s0_3 s0_4 s0_5 from hz HI0.out))))
    have NB248_0 := am ((ngt (a := g) hg (IsS63.lt (show IsS63 w0 _ g s0_0 s0_1 s0_2 s0_3 s0_4 s0_5 from hz HI0.out))))
    replace HI0 := am (IsS63.below (hz HI0.out) hb)
    clear hb hbox hg
    refine hK.out _ _ ⟨HS0_, HS1_, HS2_, HS3_, HS4_, HS5_, (hbw HB.out hw247_0), (hbw HB.out hw247_1), (hbw HB.out hw247_2), (hbw HB.out hw247_3), (hbw HB.out hw247_4), (hbw HB.out hw247_5)⟩ (fun hHeld => ?_)
    clear hK K
    refine norm_ (a' := ?_) ?_ ?_
    rotate_left
    ·show Act.put _ (some 5) _ = _
     simp only [Act.put, List.setIfInBounds_toArray, List.set_cons_zero, List.set_cons_succ, i64_w, i32_w]
     rfl
    refine one_ (i := 11) (N := none) (bts 12 4095) rfl rfl (one_of HT_.out (by kernel_rfl)) (by decide) (fun K hK => ?_)
    have hs14 : w13.cell? ⟨gb248, 0, none⟩ = some (.int .i64 0) := (blk_cell BK248.out 0).trans rfl
    have hfs14 := blk_frozen BK248.out 0
    have hs15 : w13.cell? ⟨gb248, 1, none⟩ = some (.int .i64 0) := (blk_cell BK248.out 1).trans rfl
    have hfs15 := blk_frozen BK248.out 1
    have hs16 : w13.cell? ⟨gb248, 2, none⟩ = some (.string (⟨#[]⟩ : ByteArray)) := (blk_cell BK248.out 2).trans rfl
    have hfs16 := blk_frozen BK248.out 2
    have hs17 : w13.cell? ⟨gb248, 3, none⟩ = some (.int .i64 0) := (blk_cell BK248.out 3).trans rfl
    have hfs17 := blk_frozen BK248.out 3
    have hs18 : w13.cell? ⟨gb248, 4, none⟩ = some (.int .i64 0) := (blk_cell BK248.out 4).trans rfl
    have hfs18 := blk_frozen BK248.out 4
    have hs19 : w13.cell? ⟨gb248, 5, none⟩ = some (.int .i64 0) := (blk_cell BK248.out 5).trans rfl
    have hfs19 := blk_frozen BK248.out 5
    refine skip_ (w1 := ?_) (by rfl) rfl ?_ ?_
    rotate_left
    ·go_simp
     rfl
    refine hK.out _ _ ⟨(cf hHeld.1), (cf hHeld.2.1), (cf hHeld.2.2.1), (cf hHeld.2.2.2.1), (cf hHeld.2.2.2.2.1), (cf hHeld.2.2.2.2.2.1), (cg (nlx hw247_0 HL.out GW248.out) hHeld.2.2.2.2.2.2.1), (cg (nlx hw247_1 HL.out GW248.out) hHeld.2.2.2.2.2.2.2.1), (cg (nlx hw247_2 HL.out GW248.out) hHeld.2.2.2.2.2.2.2.2.1), (cg (nlx hw247_3 HL.out GW248.out) hHeld.2.2.2.2.2.2.2.2.2.1), (cg (nlx hw247_4 HL.out GW248.out) hHeld.2.2.2.2.2.2.2.2.2.2.1), (cg (nlx hw247_5 HL.out GW248.out) hHeld.2.2.2.2.2.2.2.2.2.2.2)⟩ (fun hHeld => ?_)
    clear hK K
    refine done_ (done_of HT_.out (by kernel_rfl)) ?_
    go_upto_region 4 with (fail)
    go_cut [4] (fun v4 wc => ∃ (kq : Nat) (x4_9 : Bool), v4 = .bool x4_9 ∧ Aside0 (expr_Parser_Is.j0 kq x4_9 s0_0 s0_1 s0_2 s0_3 s0_4 s0_5 = some (r1, r2, r3, r4, r5, r6)) ∧ Aside0 (kq ≤ k) ∧ Aside0 (wc.heap[gb248]? = some (.cells #[.int .i64 ((rd_T136 s0_0 s0_1).f0), .int .i64 ((rd_T136 s0_0 s0_1).f1), .string ((rd_T136 s0_0 s0_1).f2), .int .i64 ((rd_T136 s0_0 s0_1).f3.f0), .int .i64 ((rd_T136 s0_0 s0_1).f3.f1), .int .i64 ((rd_T136 s0_0 s0_1).f4)] 136 (0, 0))) ∧ Aside0 (IsS63 w0 wc g s0_0 s0_1 s0_2 s0_3 s0_4 s0_5) ∧ Aside0 (KeepBut w wc g none) ∧ Aside0 (Below w0.heap.size w0 wc))
    case first =>
     have H := HC10.out
     clear HC10
     by_cases c20 : ((rd_T136 s0_0 s0_1).f0) = 4
     ·replace H := ipe c20 H
      obtain ⟨H, c20b0, c20b1⟩ := H
      clear c20
      (first | rw [c20b0] | (simp only [i64_w, i32_w]; rw [c20b0]) | skip)
      have H' := am H
      clear H
      have hnb21 := NB248_0.out
      have hnc21 := NB0_248.out
      obtain ⟨Z22_0, Z22_1, Z22_2, Z22_3, Z22_4, Z22_5, F22_0, F22_1, F22_2, F22_3, F22_4, F22_5⟩ := cz6 BK248.out
      go_wp2
      go_meet
      case rel => exact ⟨_, ((((rd_T136 s0_0 s0_1).f2).toList == a1.toList)), sz, H', ⟨oz⟩, ⟨bp BK248.out⟩, ⟨hz HI0.out⟩, ⟨kz HK.out⟩, ⟨bz HB.out⟩⟩
     replace H := ine c20 H
     obtain ⟨H, c20b0, c20b1⟩ := H
     (first | rw [c20b0] | (simp only [i64_w, i32_w]; rw [c20b0]) | skip)
     by_cases c23 : ((rd_T136 s0_0 s0_1).f0) = 5
     ·replace H := ipe c23 H
      obtain ⟨H, c23b0, c23b1⟩ := H
      clear c23
      have H' := am H
      clear H
      have hnb24 := NB248_0.out
      have hnc24 := NB0_248.out
      obtain ⟨Z25_0, Z25_1, Z25_2, Z25_3, Z25_4, Z25_5, F25_0, F25_1, F25_2, F25_3, F25_4, F25_5⟩ := cz6 BK248.out
      go_wp2
      go_meet
      case rel => exact ⟨_, ((((rd_T136 s0_0 s0_1).f2).toList == a1.toList)), sz, H', ⟨oz⟩, ⟨bp BK248.out⟩, ⟨hz HI0.out⟩, ⟨kz HK.out⟩, ⟨bz HB.out⟩⟩
     replace H := ine c23 H
     obtain ⟨H, c23b0, c23b1⟩ := H
     have H' := am H
     clear H
     have hnb26 := NB248_0.out
     have hnc26 := NB0_248.out
     obtain ⟨Z27_0, Z27_1, Z27_2, Z27_3, Z27_4, Z27_5, F27_0, F27_1, F27_2, F27_3, F27_4, F27_5⟩ := cz6 BK248.out
     go_wp2
     go_meet
     case rel => exact ⟨_, (false), sz, H', ⟨oz⟩, ⟨bp BK248.out⟩, ⟨hz HI0.out⟩, ⟨kz HK.out⟩, ⟨bz HB.out⟩⟩
    case rest =>
     clear HC10
     try clear c3; try clear c3b0; try clear c3b1; try clear c7; try clear c7b0; try clear c8; try clear c8b0; try clear c9; try clear c9b0; try clear Z12_0; try clear Z12_1; try clear Z12_2; try clear Z12_3; try clear Z12_4; try clear Z12_5; try clear Z6_0; try clear Z6_1; try clear Z6_2; try clear Z6_3; try clear Z6_4; try clear Z6_5; try clear F12_1; try clear F12_2; try clear F12_3; try clear F12_4; try clear F12_5; try clear F6_1; try clear F6_2; try clear F6_3; try clear F6_4; try clear F6_5; try clear hx247_0; try clear hx247_1; try clear hx247_2; try clear hx247_3; try clear hx247_4; try clear hx247_5; try clear p247; try clear q247
     obtain ⟨kq, x4_9, rfl, HA, HJ9, BK248, HI0, HK, HB⟩ := hcut
     cases kq with
     | zero => exact absurd HA.out (by simp [expr_Parser_Is.j0])
     | succ kj9 =>
      have H := HA.out
      clear HA
      simp only [expr_Parser_Is.j0] at H
      simp only [Option.some.injEq, Prod.mk.injEq] at H
      obtain ⟨rfl, rfl, rfl, rfl, rfl, rfl⟩ := H
      go_wp2
      go_ret
      exact ⟨az, hz HI0.out, bz HB.out, kz HK.out⟩
   rw [if_neg c9] at H
   exact absurd H (by simp)
  rw [if_neg c8] at H
  exact absurd H (by simp)
 replace H := ine c3 H
 obtain ⟨H, c3b0, c3b1⟩ := H
 simp only [Option.some.injEq, Prod.mk.injEq] at H
 obtain ⟨rfl, rfl, rfl, rfl, rfl, rfl⟩ := H
 go_enter Tryz.func107, Tryz.ntmps107
 try go_wp2
 replace HI0 := am (IsS63.drew HI0.out)
 replace HK := am (keep_drew HK.out)
 replace HB := am (below_drew1 HB.out)
 obtain ⟨ASz29_0, cSz29_0, HSz29_0, Z29_0, Z29_1, Z29_2, Z29_3, Z29_4, Z29_5, F29_1, F29_2, F29_3, F29_4, F29_5⟩ := open63 HI0.out
 refine start_ (n := 17) (S := fun w' => w'.cell? ⟨g, 0, none⟩ = some (.slice ASz29_0 s0_0.length cSz29_0) ∧ w'.cell? ⟨g, 1, none⟩ = some (.int .i64 s0_1) ∧ w'.cell? ⟨g, 2, none⟩ = some (.int .i64 s0_2) ∧ w'.cell? ⟨g, 3, none⟩ = some (.int .i64 s0_3) ∧ w'.cell? ⟨g, 4, none⟩ = some (.int .i64 s0_4) ∧ w'.cell? ⟨g, 5, none⟩ = some (.int .i64 s0_5)) (ds := []) (bts0 17) (by kernel_rfl) rfl rfl ⟨Z29_0, Z29_1, Z29_2, Z29_3, Z29_4, Z29_5⟩ (fun hHeld => ?_); refine with_tabW expr_Parser_Is.tab1 expr_Parser_Is.bits1 (fun HT_ HW_ => ?_)
 generalize w.drew = w28 at HI0 HK HB hHeld ⊢
 refine pu 0 (some 6) (bts 17 1) (any_of HT_.out (by kernel_rfl)) ?_
 refine pu 1 (some 7) (bts 17 3) (any_of HT_.out (by kernel_rfl)) ?_
 refine pu 2 (some 8) (bts 17 7) (any_of HT_.out (by kernel_rfl)) ?_
 refine ta 3 (some 9) (bts 17 15) (take_ofW HT_.out HW_.out (by kernel_rfl)) hHeld ?_
 refine pu 4 (some 10) (bts 17 31) (any_of HT_.out (by kernel_rfl)) ?_
 refine pu 5 (some 11) (bts 17 63) (any_of HT_.out (by kernel_rfl)) ?_
 refine pn 6 (some 12) (bts 17 127) (any_of HT_.out (by kernel_rfl)) ?_
 refine pn 7 (some 13) (bts 17 255) (any_of HT_.out (by kernel_rfl)) ?_
 refine pn 8 (some 14) (bts 17 511) (any_of HT_.out (by kernel_rfl)) ?_
 refine pn 9 (some 15) (bts 17 1023) (any_of HT_.out (by kernel_rfl)) ?_
 refine pn 10 (some 16) (bts 17 2047) (any_of HT_.out (by kernel_rfl)) ?_
 refine pn 11 (some 17) (bts 17 4095) (any_of HT_.out (by kernel_rfl)) ?_
 refine pn 12 (some 18) (bts 17 8191) (any_of HT_.out (by kernel_rfl)) ?_
 refine pn 13 (some 19) (bts 17 16383) (any_of HT_.out (by kernel_rfl)) ?_
 refine pn 14 (some 20) (bts 17 32767) (any_of HT_.out (by kernel_rfl)) ?_
 refine pn 15 (some 21) (bts 17 65535) (any_of HT_.out (by kernel_rfl)) ?_
 refine pu 16 (some 22) (bts 17 131071) (any_of HT_.out (by kernel_rfl)) ?_
 refine done_ (done_of HT_.out (by kernel_rfl)) ?_
 try go_wp2
 go_ret
 exact ⟨az, hz HI0.out, bz HB.out, kz HK.out⟩
end Go.Proofs.YtgkemhgihbfmmaaGreatDoor.PA
end
section
namespace Go.Proofs.YtgkemhgihbfmmaaGreatDoor.PA
open Go.RowKit Go.Proofs.YtgkemhgihbfmmaaGreatDoorW.PrintWords Go.Proofs.YtgkemhgihbfmmaaGreatDoorW.PrintLast Go.Proofs.YtgkemhgihbfmmaaGreatDoorW.PrintMore
attribute [local go_sem] max2_int min2_int max_two min_two max_three min_three max_four min_four isSome_set str_gtr
set_option linter.unusedVariables false
set_option linter.unusedSimpArgs false
def expr_Parser_Take.f (k : Nat) (s0_0 : List (S136)) (s0_1 s0_2 s0_3 s0_4 s0_5 : Int) (a1 : ByteArray) : Option (Bool × Int × Int × Int × Int × Int) := (expr_Parser_Is.f k s0_0 s0_1 s0_2 s0_3 s0_4 s0_5 a1).bind fun bt249 => (if bt249.1 = true then (some (true, wrap64 (bt249.2.1 + 1), bt249.2.2.1, bt249.2.2.2.1, bt249.2.2.2.2.1, bt249.2.2.2.2.2)) else (some (false, bt249.2.1, bt249.2.2.1, bt249.2.2.2.1, bt249.2.2.2.2.1, bt249.2.2.2.2.2)))
theorem expr_Parser_Take.mono : ∀ a0 a1 a2 a3 a4 a5 a6 k, LeO (expr_Parser_Take.f k a0 a1 a2 a3 a4 a5 a6) (expr_Parser_Take.f (k + 1) a0 a1 a2 a3 a4 a5 a6) := by
 intro a0 a1 a2 a3 a4 a5 a6 k
 unfold expr_Parser_Take.f
 have q0 := @expr_Parser_Is.mono; exact lmo
set_option maxHeartbeats 8000000 in
set_option maxRecDepth 100000 in
theorem expr_Parser_Take.calls (k : Nat) (g : Nat) (s0_0 : List (S136)) (s0_1 s0_2 s0_3 s0_4 s0_5 : Int) (a1 : ByteArray) (r1 : Bool) (r2 r3 r4 r5 r6 : Int) (w0 w : World) (hI : IsS63 w0 w g s0_0 s0_1 s0_2 s0_3 s0_4 s0_5) (hB : Below w0.heap.size w0 w) (h : expr_Parser_Take.f k s0_0 s0_1 s0_2 s0_3 s0_4 s0_5 a1 = some (r1, r2, r3, r4, r5, r6)) :
  Calls Tryz.prog 63 #[.pointer (some ⟨g, 0, none⟩), .string a1] w fun e w' => e = .returned (.bool r1) ∧ IsS63 w0 w' g s0_0 r2 r3 r4 r5 r6 ∧ Below w0.heap.size w0 w' ∧ KeepBut w w' g none := by
 have HI0 := am hI
 have HK := am (KeepBut.refl w g none)
 have HL := am hB.size
 clear hI
 have HW0 := am hB.size
 have HB := am hB
 clear hB
 have H : ((expr_Parser_Is.f k s0_0 s0_1 s0_2 s0_3 s0_4 s0_5 a1).bind fun bt249 => (if bt249.1 = true then (some (true, wrap64 (bt249.2.1 + 1), bt249.2.2.1, bt249.2.2.2.1, bt249.2.2.2.2.1, bt249.2.2.2.2.2)) else (some (false, bt249.2.1, bt249.2.2.1, bt249.2.2.2.1, bt249.2.2.2.2.1, bt249.2.2.2.2.2)))) = some (r1, r2, r3, r4, r5, r6) := h
 clear h
 replace H := obe6 H
 obtain ⟨t249, t250, t251, t252, t253, t254, A3, H⟩ := H
 have HC4 := am H
 clear H
 go_enter Tryz.func63, Tryz.ntmps63
 go_upto_if 8 with (first | ((with_reducible refine gate_callee (f := 107) rfl ?_); refine gl_ (some 7) Tryz.func107 (by kernel_rfl) #[.pointer (some ⟨g, 0, none⟩), .string a1] rfl ?_; (with_reducible refine (expr_Parser_Is.calls k g s0_0 s0_1 s0_2 s0_3 s0_4 s0_5 a1 t249 t250 t251 t252 t253 t254 w0 _ ?side1 ?side2 A3.out).mono ?_); (case side1 => exact hz HI0.out); (case side2 => exact bz HB.out); rintro e w5 ⟨rfl, hi, hb, hk⟩; refine ⟨_, rfl, ?_⟩; replace HK := am (KeepBut.trans (kz HK.out) hk (.inl rfl)); replace HB := am (hb); replace HI0 := am (hi); clear hb hk hi))
 (try simp only [Act.put, List.setIfInBounds_toArray, List.set_cons_zero, List.set_cons_succ])
 have H := HC4.out
 clear HC4
 by_cases c6 : t249 = true
 ·subst c6
  replace H := ift H
  simp only [Option.some.injEq, Prod.mk.injEq] at H
  obtain ⟨rfl, rfl, rfl, rfl, rfl, rfl⟩ := H
  obtain ⟨ASz7_0, cSz7_0, HSz7_0, Z7_0, Z7_1, Z7_2, Z7_3, Z7_4, Z7_5, F7_1, F7_2, F7_3, F7_4, F7_5⟩ := open63 HI0.out
  go_wp2
  go_ret
  exact ⟨az, hz HI0.out, bz HB.out, kz HK.out⟩
 replace c6 := Bool.eq_false_iff.mpr c6
 subst c6
 replace H := iff_ H
 simp only [Option.some.injEq, Prod.mk.injEq] at H
 obtain ⟨rfl, rfl, rfl, rfl, rfl, rfl⟩ := H
 go_wp2
 go_ret
 exact ⟨az, hz HI0.out, bz HB.out, kz HK.out⟩
end Go.Proofs.YtgkemhgihbfmmaaGreatDoor.PA
end
section
namespace Go.Proofs.YtgkemhgihbfmmaaGreatDoor.PA
open Go.RowKit Go.Proofs.YtgkemhgihbfmmaaGreatDoorW.PrintWords Go.Proofs.YtgkemhgihbfmmaaGreatDoorW.PrintLast Go.Proofs.YtgkemhgihbfmmaaGreatDoorW.PrintMore
attribute [local go_sem] max2_int min2_int max_two min_two max_three min_three max_four min_four isSome_set str_gtr
set_option linter.unusedVariables false
set_option linter.unusedSimpArgs false
def expr_Parser_make.f (s0_0 : List (S136)) (s0_1 s0_2 s0_3 s0_4 s0_5 a1 : Int) (l2 : List (S31)) : Option (Int × Int × Int × Int × ByteArray × Int × ByteArray × (List (S31)) × Int × Int × Int × Int × Int) := if (wrap64 (s0_5 + 1)) > 4096 then (none) else (some (a1, 0, 0, 0, (⟨#[]⟩ : ByteArray), 0, (⟨#[]⟩ : ByteArray), l2, s0_1, s0_2, s0_3, s0_4, wrap64 (s0_5 + 1)))
set_option maxHeartbeats 8000000 in
set_option maxRecDepth 100000 in
theorem expr_Parser_make.calls (g : Nat) (s0_0 : List (S136)) (s0_1 s0_2 s0_3 s0_4 s0_5 a1 : Int) (P2_ : Nat → Prop) (A2 : Option Addr) (c2 : Nat) (l2 : List (S31)) (r1 r2 r3 r4 : Int) (r5 : ByteArray) (r6 : Int) (r7 : ByteArray) (r8 : List (S31)) (r9 r10 r11 r12 r13 : Int) (w0 w : World) (hI : IsS63 w0 w g s0_0 s0_1 s0_2 s0_3 s0_4 s0_5) (hB : Below w0.heap.size w0 w) (hs2 : Kd.V k31 31 w w.heap.size (fun k_ => P2_ k_ ∧ k_ ≠ g) (.slice A2 l2.length c2) l2) (h : expr_Parser_make.f s0_0 s0_1 s0_2 s0_3 s0_4 s0_5 a1 l2 = some (r1, r2, r3, r4, r5, r6, r7, r8, r9, r10, r11, r12, r13)) :
  Calls Tryz.prog 66 #[.pointer (some ⟨g, 0, none⟩), .int .i64 a1, .slice A2 l2.length c2] w fun e w' => ∃ v7_ : Value, e = .returned (.agg #[.int .i64 r1, .int .i64 r2, .int .i64 r3, .int .i64 r4, .string r5, .int .i64 r6, .string r7, v7_]) ∧ Kd.V k31 31 w' w.heap.size (fun k_ => (P2_ k_ ∨ w.heap.size ≤ k_)) v7_ r8 ∧ IsS63 w0 w' g s0_0 r9 r10 r11 r12 r13 ∧ Below w0.heap.size w0 w' ∧ KeepBut w w' g none := by
 have hu31 := Tryz.underlying31
 have HO2 := am (show Kd.V k31 31 w w.heap.size (fun k_ => (P2_ k_ ∨ w.heap.size ≤ k_) ∧ k_ ≠ g) (.slice A2 l2.length c2) l2 from Kd.V_mono hs2 (fun k_ hk => ⟨.inl hk.1, hk.2⟩))
 have HI0 := am hI
 have HK := am (KeepBut.refl w g none)
 have HL := am hB.size
 clear hI
 have HW0 := am hB.size
 have HB := am hB
 clear hB
 have H : (if (wrap64 (s0_5 + 1)) > 4096 then (none) else (some (a1, 0, 0, 0, (⟨#[]⟩ : ByteArray), 0, (⟨#[]⟩ : ByteArray), l2, s0_1, s0_2, s0_3, s0_4, wrap64 (s0_5 + 1)))) = some (r1, r2, r3, r4, r5, r6, r7, r8, r9, r10, r11, r12, r13) := h
 clear h
 by_cases c4 : (wrap64 (s0_5 + 1)) > 4096
 ·rw [if_pos c4] at H
  exact absurd H (by simp)
 rw [if_neg c4] at H
 have c4b0 : decide (4096 < (wrap64 (s0_5 + 1))) = false := decide_eq_false c4
 clear c4
 simp only [Option.some.injEq, Prod.mk.injEq] at H
 obtain ⟨rfl, rfl, rfl, rfl, rfl, rfl, rfl, rfl, rfl, rfl, rfl, rfl, rfl⟩ := H
 go_enter Tryz.func66, Tryz.ntmps66
 go_wp2_with (first | ((with_reducible refine gate_dst (N := 6) rfl ?_); refine bev (#[.int .i64 0, .int .i64 0, .int .i64 0, .int .i64 0, .string (⟨#[]⟩ : ByteArray), .int .i64 0, .string (⟨#[]⟩ : ByteArray), .slice none 0 0]) 31 ?_; intro gb255 hg w5 hbox hb; replace HO2 := am (Kd.V_below (Kd.V_elderB (vv HO2.out) gb255 (Nat.le_of_eq hg.symm)) hb); replace HB := sb HB hb; have BK255 := am (hbox); have GW255 := gk hg HK; have GE255 := am (Nat.le_trans HW0.out GW255.out); replace HK := am (KeepBut.trans (kz HK.out) (KeepBut.of_below hb g none) (.inl rfl)); have NB0_255 := am ((nlt (a := g) hg (IsS63.lt (show IsS63 w0 _ g s0_0 s0_1 s0_2 s0_3 s0_4 s0_5 from hz HI0.out)))); have NB255_0 := am ((ngt (a := g) hg (IsS63.lt (show IsS63 w0 _ g s0_0 s0_1 s0_2 s0_3 s0_4 s0_5 from hz HI0.out)))); replace HI0 := am (IsS63.below (hz HI0.out) hb); clear hb hbox hg; obtain ⟨ASz6_0, cSz6_0, HSz6_0, Z6_0, Z6_1, Z6_2, Z6_3, Z6_4, Z6_5, F6_1, F6_2, F6_3, F6_4, F6_5⟩ := open63 HI0.out; have hnb7 := NB255_0.out; have hnc7 := NB0_255.out; obtain ⟨Z8_0, Z8_1, Z8_2, Z8_3, Z8_4, Z8_5, Z8_6, Z8_7, F8_0, F8_1, F8_2, F8_3, F8_4, F8_5, F8_6, F8_7⟩ := cz8 BK255.out))
 refine bodyPost_ret (results_cell_row rfl _ _ gb255 31 #[.int .i64 a1, .int .i64 0, .int .i64 0, .int .i64 0, .string (⟨#[]⟩ : ByteArray), .int .i64 0, .string (⟨#[]⟩ : ByteArray), .slice A2 l2.length c2] (0, 0) _ rfl (bp BK255.out) Tryz.underlying31 rfl (by kernel_rfl)) rfl ?_
 exact ⟨_, az, by (with_reducible repeat (first | apply Kd.V_alloc | apply Kd.V_drewN | apply Kd.V_drew)); exact Kd.V_mono (Kd.V_far (p := ⟨gb255, 7, none⟩) (Kd.V_far (p := ⟨gb255, 6, none⟩) (Kd.V_far (p := ⟨gb255, 5, none⟩) (Kd.V_far (p := ⟨gb255, 4, none⟩) (Kd.V_far (p := ⟨gb255, 3, none⟩) (Kd.V_far (p := ⟨gb255, 2, none⟩) (Kd.V_far (p := ⟨gb255, 1, none⟩) (Kd.V_far (p := ⟨gb255, 0, none⟩) (Kd.V_far (p := ⟨g, 5, none⟩) (Kd.V_mono (Kd.V_mono HO2.out (fun k_ hk => (⟨hk, hk.1.2⟩ : _ ∧ k_ ≠ g))) (fun k_ hk => (⟨hk, hk.1.2⟩ : _ ∧ k_ ≠ gb255))) (fun _ hk => hk.1.2) (.int .i64 (wrap64 (s0_5 + 1)))) (fun _ hk => hk.2) (.int .i64 a1)) (fun _ hk => hk.2) (.int .i64 0)) (fun _ hk => hk.2) (.int .i64 0)) (fun _ hk => hk.2) (.int .i64 0)) (fun _ hk => hk.2) (.string (⟨#[]⟩ : ByteArray))) (fun _ hk => hk.2) (.int .i64 0)) (fun _ hk => hk.2) (.string (⟨#[]⟩ : ByteArray))) (fun _ hk => hk.2) (.slice A2 l2.length c2)) (fun _ hk => hk.1.1.1.1), hz HI0.out, bz HB.out, kz HK.out⟩
end Go.Proofs.YtgkemhgihbfmmaaGreatDoor.PA
end
section
namespace Go.Proofs.YtgkemhgihbfmmaaGreatDoor.PA
open Go.RowKit Go.Proofs.YtgkemhgihbfmmaaGreatDoorW.PrintWords Go.Proofs.YtgkemhgihbfmmaaGreatDoorW.PrintLast Go.Proofs.YtgkemhgihbfmmaaGreatDoorW.PrintMore
attribute [local go_sem] max2_int min2_int max_two min_two max_three min_three max_four min_four isSome_set str_gtr
set_option linter.unusedVariables false
set_option linter.unusedSimpArgs false
def expr_levels.f  : Option ((List (S143))) := some (([(⟨(([(⟨#[111, 114]⟩ : ByteArray)] : List ByteArray)), (([15] : List Int)), false⟩ : S143), (⟨(([(⟨#[97, 110, 100]⟩ : ByteArray)] : List ByteArray)), (([14] : List Int)), false⟩ : S143), (⟨(([(⟨#[61]⟩ : ByteArray), (⟨#[33, 61]⟩ : ByteArray), (⟨#[60]⟩ : ByteArray), (⟨#[60, 61]⟩ : ByteArray), (⟨#[62]⟩ : ByteArray), (⟨#[62, 61]⟩ : ByteArray)] : List ByteArray)), (([8, 9, 10, 11, 12, 13] : List Int)), true⟩ : S143), (⟨(([(⟨#[43]⟩ : ByteArray), (⟨#[45]⟩ : ByteArray)] : List ByteArray)), (([4, 5] : List Int)), false⟩ : S143), (⟨(([(⟨#[42]⟩ : ByteArray), (⟨#[47]⟩ : ByteArray)] : List ByteArray)), (([6, 7] : List Int)), false⟩ : S143)] : List (S143)))
set_option maxHeartbeats 8000000 in
set_option maxRecDepth 100000 in
theorem expr_levels.calls  (r : List (S143)) (w : World) (h : expr_levels.f  = some r) :
  Calls Tryz.prog 108 #[] w fun e w' => ∃ v0_ : Value, e = .returned (v0_) ∧ Kd.N k143 143 w' w.heap.size (fun k_ => (w.heap.size ≤ k_)) v0_ r ∧ Below w.heap.size w w' := by
 have hu143 := Tryz.underlying143
 have HB := am (Below.refl w.heap.size w)
 have H : (some (([(⟨(([(⟨#[111, 114]⟩ : ByteArray)] : List ByteArray)), (([15] : List Int)), false⟩ : S143), (⟨(([(⟨#[97, 110, 100]⟩ : ByteArray)] : List ByteArray)), (([14] : List Int)), false⟩ : S143), (⟨(([(⟨#[61]⟩ : ByteArray), (⟨#[33, 61]⟩ : ByteArray), (⟨#[60]⟩ : ByteArray), (⟨#[60, 61]⟩ : ByteArray), (⟨#[62]⟩ : ByteArray), (⟨#[62, 61]⟩ : ByteArray)] : List ByteArray)), (([8, 9, 10, 11, 12, 13] : List Int)), true⟩ : S143), (⟨(([(⟨#[43]⟩ : ByteArray), (⟨#[45]⟩ : ByteArray)] : List ByteArray)), (([4, 5] : List Int)), false⟩ : S143), (⟨(([(⟨#[42]⟩ : ByteArray), (⟨#[47]⟩ : ByteArray)] : List ByteArray)), (([6, 7] : List Int)), false⟩ : S143)] : List (S143)))) = some r := h
 clear h
 obtain ⟨y256, hy256⟩ : ∃ y_ : List ByteArray, y_ = (([(⟨#[111, 114]⟩ : ByteArray)] : List ByteArray)) := ⟨_, rfl⟩
 replace H : (some (([(⟨y256, (([15] : List Int)), false⟩ : S143), (⟨(([(⟨#[97, 110, 100]⟩ : ByteArray)] : List ByteArray)), (([14] : List Int)), false⟩ : S143), (⟨(([(⟨#[61]⟩ : ByteArray), (⟨#[33, 61]⟩ : ByteArray), (⟨#[60]⟩ : ByteArray), (⟨#[60, 61]⟩ : ByteArray), (⟨#[62]⟩ : ByteArray), (⟨#[62, 61]⟩ : ByteArray)] : List ByteArray)), (([8, 9, 10, 11, 12, 13] : List Int)), true⟩ : S143), (⟨(([(⟨#[43]⟩ : ByteArray), (⟨#[45]⟩ : ByteArray)] : List ByteArray)), (([4, 5] : List Int)), false⟩ : S143), (⟨(([(⟨#[42]⟩ : ByteArray), (⟨#[47]⟩ : ByteArray)] : List ByteArray)), (([6, 7] : List Int)), false⟩ : S143)] : List (S143)))) = some r := by first | (rw [hy256]; with_reducible exact H) | (have H2_ := (Option.bind_some _ _).symm.trans H; rw [hy256]; with_reducible exact H2_) | (have H2_ := (Option.bind_some _ _).symm.trans H; with_reducible exact H2_) | with_reducible exact H | (rw [hy256]; exact H) | exact H
 have Ny256 := am hy256
 clear hy256
 obtain ⟨y259, hy259⟩ : ∃ y_ : List Int, y_ = (([15] : List Int)) := ⟨_, rfl⟩
 replace H : (some (([(⟨y256, y259, false⟩ : S143), (⟨(([(⟨#[97, 110, 100]⟩ : ByteArray)] : List ByteArray)), (([14] : List Int)), false⟩ : S143), (⟨(([(⟨#[61]⟩ : ByteArray), (⟨#[33, 61]⟩ : ByteArray), (⟨#[60]⟩ : ByteArray), (⟨#[60, 61]⟩ : ByteArray), (⟨#[62]⟩ : ByteArray), (⟨#[62, 61]⟩ : ByteArray)] : List ByteArray)), (([8, 9, 10, 11, 12, 13] : List Int)), true⟩ : S143), (⟨(([(⟨#[43]⟩ : ByteArray), (⟨#[45]⟩ : ByteArray)] : List ByteArray)), (([4, 5] : List Int)), false⟩ : S143), (⟨(([(⟨#[42]⟩ : ByteArray), (⟨#[47]⟩ : ByteArray)] : List ByteArray)), (([6, 7] : List Int)), false⟩ : S143)] : List (S143)))) = some r := by first | (rw [hy259]; with_reducible exact H) | (have H2_ := (Option.bind_some _ _).symm.trans H; rw [hy259]; with_reducible exact H2_) | (have H2_ := (Option.bind_some _ _).symm.trans H; with_reducible exact H2_) | with_reducible exact H | (rw [hy259]; exact H) | exact H
 have Ny259 := am hy259
 clear hy259
 obtain ⟨y262, hy262⟩ : ∃ y_ : List ByteArray, y_ = (([(⟨#[97, 110, 100]⟩ : ByteArray)] : List ByteArray)) := ⟨_, rfl⟩
 replace H : (some (([(⟨y256, y259, false⟩ : S143), (⟨y262, (([14] : List Int)), false⟩ : S143), (⟨(([(⟨#[61]⟩ : ByteArray), (⟨#[33, 61]⟩ : ByteArray), (⟨#[60]⟩ : ByteArray), (⟨#[60, 61]⟩ : ByteArray), (⟨#[62]⟩ : ByteArray), (⟨#[62, 61]⟩ : ByteArray)] : List ByteArray)), (([8, 9, 10, 11, 12, 13] : List Int)), true⟩ : S143), (⟨(([(⟨#[43]⟩ : ByteArray), (⟨#[45]⟩ : ByteArray)] : List ByteArray)), (([4, 5] : List Int)), false⟩ : S143), (⟨(([(⟨#[42]⟩ : ByteArray), (⟨#[47]⟩ : ByteArray)] : List ByteArray)), (([6, 7] : List Int)), false⟩ : S143)] : List (S143)))) = some r := by first | (rw [hy262]; with_reducible exact H) | (have H2_ := (Option.bind_some _ _).symm.trans H; rw [hy262]; with_reducible exact H2_) | (have H2_ := (Option.bind_some _ _).symm.trans H; with_reducible exact H2_) | with_reducible exact H | (rw [hy262]; exact H) | exact H
 have Ny262 := am hy262
 clear hy262
 obtain ⟨y265, hy265⟩ : ∃ y_ : List Int, y_ = (([14] : List Int)) := ⟨_, rfl⟩
 replace H : (some (([(⟨y256, y259, false⟩ : S143), (⟨y262, y265, false⟩ : S143), (⟨(([(⟨#[61]⟩ : ByteArray), (⟨#[33, 61]⟩ : ByteArray), (⟨#[60]⟩ : ByteArray), (⟨#[60, 61]⟩ : ByteArray), (⟨#[62]⟩ : ByteArray), (⟨#[62, 61]⟩ : ByteArray)] : List ByteArray)), (([8, 9, 10, 11, 12, 13] : List Int)), true⟩ : S143), (⟨(([(⟨#[43]⟩ : ByteArray), (⟨#[45]⟩ : ByteArray)] : List ByteArray)), (([4, 5] : List Int)), false⟩ : S143), (⟨(([(⟨#[42]⟩ : ByteArray), (⟨#[47]⟩ : ByteArray)] : List ByteArray)), (([6, 7] : List Int)), false⟩ : S143)] : List (S143)))) = some r := by first | (rw [hy265]; with_reducible exact H) | (have H2_ := (Option.bind_some _ _).symm.trans H; rw [hy265]; with_reducible exact H2_) | (have H2_ := (Option.bind_some _ _).symm.trans H; with_reducible exact H2_) | with_reducible exact H | (rw [hy265]; exact H) | exact H
 have Ny265 := am hy265
 clear hy265
 obtain ⟨y268, hy268⟩ : ∃ y_ : List ByteArray, y_ = (([(⟨#[61]⟩ : ByteArray), (⟨#[33, 61]⟩ : ByteArray), (⟨#[60]⟩ : ByteArray), (⟨#[60, 61]⟩ : ByteArray), (⟨#[62]⟩ : ByteArray), (⟨#[62, 61]⟩ : ByteArray)] : List ByteArray)) := ⟨_, rfl⟩
 replace H : (some (([(⟨y256, y259, false⟩ : S143), (⟨y262, y265, false⟩ : S143), (⟨y268, (([8, 9, 10, 11, 12, 13] : List Int)), true⟩ : S143), (⟨(([(⟨#[43]⟩ : ByteArray), (⟨#[45]⟩ : ByteArray)] : List ByteArray)), (([4, 5] : List Int)), false⟩ : S143), (⟨(([(⟨#[42]⟩ : ByteArray), (⟨#[47]⟩ : ByteArray)] : List ByteArray)), (([6, 7] : List Int)), false⟩ : S143)] : List (S143)))) = some r := by first | (rw [hy268]; with_reducible exact H) | (have H2_ := (Option.bind_some _ _).symm.trans H; rw [hy268]; with_reducible exact H2_) | (have H2_ := (Option.bind_some _ _).symm.trans H; with_reducible exact H2_) | with_reducible exact H | (rw [hy268]; exact H) | exact H
 have Ny268 := am hy268
 clear hy268
 obtain ⟨y271, hy271⟩ : ∃ y_ : List Int, y_ = (([8, 9, 10, 11, 12, 13] : List Int)) := ⟨_, rfl⟩
 replace H : (some (([(⟨y256, y259, false⟩ : S143), (⟨y262, y265, false⟩ : S143), (⟨y268, y271, true⟩ : S143), (⟨(([(⟨#[43]⟩ : ByteArray), (⟨#[45]⟩ : ByteArray)] : List ByteArray)), (([4, 5] : List Int)), false⟩ : S143), (⟨(([(⟨#[42]⟩ : ByteArray), (⟨#[47]⟩ : ByteArray)] : List ByteArray)), (([6, 7] : List Int)), false⟩ : S143)] : List (S143)))) = some r := by first | (rw [hy271]; with_reducible exact H) | (have H2_ := (Option.bind_some _ _).symm.trans H; rw [hy271]; with_reducible exact H2_) | (have H2_ := (Option.bind_some _ _).symm.trans H; with_reducible exact H2_) | with_reducible exact H | (rw [hy271]; exact H) | exact H
 have Ny271 := am hy271
 clear hy271
 obtain ⟨y274, hy274⟩ : ∃ y_ : List ByteArray, y_ = (([(⟨#[43]⟩ : ByteArray), (⟨#[45]⟩ : ByteArray)] : List ByteArray)) := ⟨_, rfl⟩
 replace H : (some (([(⟨y256, y259, false⟩ : S143), (⟨y262, y265, false⟩ : S143), (⟨y268, y271, true⟩ : S143), (⟨y274, (([4, 5] : List Int)), false⟩ : S143), (⟨(([(⟨#[42]⟩ : ByteArray), (⟨#[47]⟩ : ByteArray)] : List ByteArray)), (([6, 7] : List Int)), false⟩ : S143)] : List (S143)))) = some r := by first | (rw [hy274]; with_reducible exact H) | (have H2_ := (Option.bind_some _ _).symm.trans H; rw [hy274]; with_reducible exact H2_) | (have H2_ := (Option.bind_some _ _).symm.trans H; with_reducible exact H2_) | with_reducible exact H | (rw [hy274]; exact H) | exact H
 have Ny274 := am hy274
 clear hy274
 obtain ⟨y277, hy277⟩ : ∃ y_ : List Int, y_ = (([4, 5] : List Int)) := ⟨_, rfl⟩
 replace H : (some (([(⟨y256, y259, false⟩ : S143), (⟨y262, y265, false⟩ : S143), (⟨y268, y271, true⟩ : S143), (⟨y274, y277, false⟩ : S143), (⟨(([(⟨#[42]⟩ : ByteArray), (⟨#[47]⟩ : ByteArray)] : List ByteArray)), (([6, 7] : List Int)), false⟩ : S143)] : List (S143)))) = some r := by first | (rw [hy277]; with_reducible exact H) | (have H2_ := (Option.bind_some _ _).symm.trans H; rw [hy277]; with_reducible exact H2_) | (have H2_ := (Option.bind_some _ _).symm.trans H; with_reducible exact H2_) | with_reducible exact H | (rw [hy277]; exact H) | exact H
 have Ny277 := am hy277
 clear hy277
 obtain ⟨y280, hy280⟩ : ∃ y_ : List ByteArray, y_ = (([(⟨#[42]⟩ : ByteArray), (⟨#[47]⟩ : ByteArray)] : List ByteArray)) := ⟨_, rfl⟩
 replace H : (some (([(⟨y256, y259, false⟩ : S143), (⟨y262, y265, false⟩ : S143), (⟨y268, y271, true⟩ : S143), (⟨y274, y277, false⟩ : S143), (⟨y280, (([6, 7] : List Int)), false⟩ : S143)] : List (S143)))) = some r := by first | (rw [hy280]; with_reducible exact H) | (have H2_ := (Option.bind_some _ _).symm.trans H; rw [hy280]; with_reducible exact H2_) | (have H2_ := (Option.bind_some _ _).symm.trans H; with_reducible exact H2_) | with_reducible exact H | (rw [hy280]; exact H) | exact H
 have Ny280 := am hy280
 clear hy280
 obtain ⟨y283, hy283⟩ : ∃ y_ : List Int, y_ = (([6, 7] : List Int)) := ⟨_, rfl⟩
 replace H : (some (([(⟨y256, y259, false⟩ : S143), (⟨y262, y265, false⟩ : S143), (⟨y268, y271, true⟩ : S143), (⟨y274, y277, false⟩ : S143), (⟨y280, y283, false⟩ : S143)] : List (S143)))) = some r := by first | (rw [hy283]; with_reducible exact H) | (have H2_ := (Option.bind_some _ _).symm.trans H; rw [hy283]; with_reducible exact H2_) | (have H2_ := (Option.bind_some _ _).symm.trans H; with_reducible exact H2_) | with_reducible exact H | (rw [hy283]; exact H) | exact H
 have Ny283 := am hy283
 clear hy283
 obtain ⟨y286, hy286⟩ : ∃ y_ : List (S143), y_ = (([(⟨y256, y259, false⟩ : S143), (⟨y262, y265, false⟩ : S143), (⟨y268, y271, true⟩ : S143), (⟨y274, y277, false⟩ : S143), (⟨y280, y283, false⟩ : S143)] : List (S143))) := ⟨_, rfl⟩
 replace H : (some y286) = some r := by first | (rw [hy286]; with_reducible exact H) | (have H2_ := (Option.bind_some _ _).symm.trans H; rw [hy286]; with_reducible exact H2_) | (have H2_ := (Option.bind_some _ _).symm.trans H; with_reducible exact H2_) | with_reducible exact H | (rw [hy286]; exact H) | exact H
 have Ny286 := am hy286
 clear hy286
 obtain rfl := Option.some.inj H
 go_enter Tryz.func108, Tryz.ntmps108
 go_wp2_with (first | ((with_reducible refine gate_dst (N := 1) rfl ?_); refine rlit Kd.string 9 ([(⟨#[111, 114]⟩ : ByteArray)] : List ByteArray) [.string (⟨#[111, 114]⟩ : ByteArray)] ?_ (Below.refl _ _) (Nat.le_refl _) (r1s (Reps.none _ _)); intro v257 w1 ho2 hb hg_ hnew_; clear hg_ hnew_; (first | rw [← Ny256.out] at ho2 | (simp only [Int.reduceToNat] at ho2; rw [← Ny256.out] at ho2)); have HO258 := am (Kd.R_lower (Kd.R_newM (M := fun k_ => (w.heap.size ≤ k_)) ho2 (below_size (bz HB.out)) (fun k_ h_ => h_)) (below_size (bz HB.out))); replace HB := sb HB hb; clear hb ho2) | ((with_reducible refine gate_dst (N := 2) rfl ?_); refine rlit (Kd.int .i64) 3 ([15] : List Int) [.int .i64 15] ?_ (Below.refl _ _) (Nat.le_refl _) (r1i (Reps.none _ _)); intro v260 w3 ho4 hb hg_ hnew_; clear hg_ hnew_; (first | rw [← Ny259.out] at ho4 | (simp only [Int.reduceToNat] at ho4; rw [← Ny259.out] at ho4)); replace HO258 := am (Kd.R_below (rr HO258.out) hb); have HO261 := am (Kd.R_lower (Kd.R_newM (M := fun k_ => (w.heap.size ≤ k_)) ho4 (below_size (bz HB.out)) (fun k_ h_ => h_)) (below_size (bz HB.out))); replace HB := sb HB hb; clear hb ho4; obtain ⟨Ao5, co5, eo5⟩ := Kd.R_slice HO261.out; subst eo5; obtain ⟨Ao6, co6, eo6⟩ := Kd.R_slice HO258.out; subst eo6) | ((with_reducible refine gate_dst (N := 4) rfl ?_); refine rlit Kd.string 9 ([(⟨#[97, 110, 100]⟩ : ByteArray)] : List ByteArray) [.string (⟨#[97, 110, 100]⟩ : ByteArray)] ?_ (Below.refl _ _) (Nat.le_refl _) (r1s (Reps.none _ _)); intro v263 w7 ho8 hb hg_ hnew_; clear hg_ hnew_; (first | rw [← Ny262.out] at ho8 | (simp only [Int.reduceToNat] at ho8; rw [← Ny262.out] at ho8)); replace HO261 := am (Kd.R_below (rr HO261.out) hb); have HO264 := am (Kd.R_lower (Kd.R_new' (Kd.R_newM (M := fun k_ => (w.heap.size ≤ k_)) ho8 (below_size (bz HB.out)) (fun k_ h_ => h_)) (Kd.R_lt (rr HO258.out))) (below_size (bz HB.out))); replace HO258 := am (Kd.R_elder' (rr HO258.out) (Kd.R_base ho8) hb); replace HB := sb HB hb; clear hb ho8) | ((with_reducible refine gate_dst (N := 5) rfl ?_); refine rlit (Kd.int .i64) 3 ([14] : List Int) [.int .i64 14] ?_ (Below.refl _ _) (Nat.le_refl _) (r1i (Reps.none _ _)); intro v266 w9 ho10 hb hg_ hnew_; clear hg_ hnew_; (first | rw [← Ny265.out] at ho10 | (simp only [Int.reduceToNat] at ho10; rw [← Ny265.out] at ho10)); replace HO258 := am (Kd.R_below (rr HO258.out) hb); replace HO264 := am (Kd.R_below (rr HO264.out) hb); have HO267 := am (Kd.R_lower (Kd.R_new' (Kd.R_newM (M := fun k_ => (w.heap.size ≤ k_)) ho10 (below_size (bz HB.out)) (fun k_ h_ => h_)) (Kd.R_lt (rr HO261.out))) (below_size (bz HB.out))); replace HO261 := am (Kd.R_elder' (rr HO261.out) (Kd.R_base ho10) hb); replace HB := sb HB hb; clear hb ho10; obtain ⟨Ao11, co11, eo11⟩ := Kd.R_slice HO267.out; subst eo11; obtain ⟨Ao12, co12, eo12⟩ := Kd.R_slice HO264.out; subst eo12) | ((with_reducible refine gate_dst (N := 7) rfl ?_); refine rlit Kd.string 9 ([(⟨#[61]⟩ : ByteArray), (⟨#[33, 61]⟩ : ByteArray), (⟨#[60]⟩ : ByteArray), (⟨#[60, 61]⟩ : ByteArray), (⟨#[62]⟩ : ByteArray), (⟨#[62, 61]⟩ : ByteArray)] : List ByteArray) [.string (⟨#[61]⟩ : ByteArray), .string (⟨#[33, 61]⟩ : ByteArray), .string (⟨#[60]⟩ : ByteArray), .string (⟨#[60, 61]⟩ : ByteArray), .string (⟨#[62]⟩ : ByteArray), .string (⟨#[62, 61]⟩ : ByteArray)] ?_ (Below.refl _ _) (Nat.le_refl _) (r1s (r1s (r1s (r1s (r1s (r1s (Reps.none _ _))))))); intro v269 w13 ho14 hb hg_ hnew_; clear hg_ hnew_; (first | rw [← Ny268.out] at ho14 | (simp only [Int.reduceToNat] at ho14; rw [← Ny268.out] at ho14)); replace HO261 := am (Kd.R_below (rr HO261.out) hb); replace HO267 := am (Kd.R_below (rr HO267.out) hb); have HO270 := am (Kd.R_lower (Kd.R_new' (Kd.R_new' (Kd.R_newM (M := fun k_ => (w.heap.size ≤ k_)) ho14 (below_size (bz HB.out)) (fun k_ h_ => h_)) (Kd.R_lt (rr HO258.out))) (Kd.R_lt (rr HO264.out))) (below_size (bz HB.out))); replace HO258 := am (Kd.R_elder' (rr HO258.out) (Kd.R_base ho14) hb); replace HO264 := am (Kd.R_elder' (rr HO264.out) (Kd.R_base ho14) hb); replace HB := sb HB hb; clear hb ho14) | ((with_reducible refine gate_dst (N := 8) rfl ?_); refine rlit (Kd.int .i64) 3 ([8, 9, 10, 11, 12, 13] : List Int) [.int .i64 8, .int .i64 9, .int .i64 10, .int .i64 11, .int .i64 12, .int .i64 13] ?_ (Below.refl _ _) (Nat.le_refl _) (r1i (r1i (r1i (r1i (r1i (r1i (Reps.none _ _))))))); intro v272 w15 ho16 hb hg_ hnew_; clear hg_ hnew_; (first | rw [← Ny271.out] at ho16 | (simp only [Int.reduceToNat] at ho16; rw [← Ny271.out] at ho16)); replace HO258 := am (Kd.R_below (rr HO258.out) hb); replace HO264 := am (Kd.R_below (rr HO264.out) hb); replace HO270 := am (Kd.R_below (rr HO270.out) hb); have HO273 := am (Kd.R_lower (Kd.R_new' (Kd.R_new' (Kd.R_newM (M := fun k_ => (w.heap.size ≤ k_)) ho16 (below_size (bz HB.out)) (fun k_ h_ => h_)) (Kd.R_lt (rr HO261.out))) (Kd.R_lt (rr HO267.out))) (below_size (bz HB.out))); replace HO261 := am (Kd.R_elder' (rr HO261.out) (Kd.R_base ho16) hb); replace HO267 := am (Kd.R_elder' (rr HO267.out) (Kd.R_base ho16) hb); replace HB := sb HB hb; clear hb ho16; obtain ⟨Ao17, co17, eo17⟩ := Kd.R_slice HO273.out; subst eo17; obtain ⟨Ao18, co18, eo18⟩ := Kd.R_slice HO270.out; subst eo18) | ((with_reducible refine gate_dst (N := 10) rfl ?_); refine rlit Kd.string 9 ([(⟨#[43]⟩ : ByteArray), (⟨#[45]⟩ : ByteArray)] : List ByteArray) [.string (⟨#[43]⟩ : ByteArray), .string (⟨#[45]⟩ : ByteArray)] ?_ (Below.refl _ _) (Nat.le_refl _) (r1s (r1s (Reps.none _ _))); intro v275 w19 ho20 hb hg_ hnew_; clear hg_ hnew_; (first | rw [← Ny274.out] at ho20 | (simp only [Int.reduceToNat] at ho20; rw [← Ny274.out] at ho20)); replace HO261 := am (Kd.R_below (rr HO261.out) hb); replace HO267 := am (Kd.R_below (rr HO267.out) hb); replace HO273 := am (Kd.R_below (rr HO273.out) hb); have HO276 := am (Kd.R_lower (Kd.R_new' (Kd.R_new' (Kd.R_new' (Kd.R_newM (M := fun k_ => (w.heap.size ≤ k_)) ho20 (below_size (bz HB.out)) (fun k_ h_ => h_)) (Kd.R_lt (rr HO258.out))) (Kd.R_lt (rr HO264.out))) (Kd.R_lt (rr HO270.out))) (below_size (bz HB.out))); replace HO258 := am (Kd.R_elder' (rr HO258.out) (Kd.R_base ho20) hb); replace HO264 := am (Kd.R_elder' (rr HO264.out) (Kd.R_base ho20) hb); replace HO270 := am (Kd.R_elder' (rr HO270.out) (Kd.R_base ho20) hb); replace HB := sb HB hb; clear hb ho20) | ((with_reducible refine gate_dst (N := 11) rfl ?_); refine rlit (Kd.int .i64) 3 ([4, 5] : List Int) [.int .i64 4, .int .i64 5] ?_ (Below.refl _ _) (Nat.le_refl _) (r1i (r1i (Reps.none _ _))); intro v278 w21 ho22 hb hg_ hnew_; clear hg_ hnew_; (first | rw [← Ny277.out] at ho22 | (simp only [Int.reduceToNat] at ho22; rw [← Ny277.out] at ho22)); replace HO258 := am (Kd.R_below (rr HO258.out) hb); replace HO264 := am (Kd.R_below (rr HO264.out) hb); replace HO270 := am (Kd.R_below (rr HO270.out) hb); replace HO276 := am (Kd.R_below (rr HO276.out) hb); have HO279 := am (Kd.R_lower (Kd.R_new' (Kd.R_new' (Kd.R_new' (Kd.R_newM (M := fun k_ => (w.heap.size ≤ k_)) ho22 (below_size (bz HB.out)) (fun k_ h_ => h_)) (Kd.R_lt (rr HO261.out))) (Kd.R_lt (rr HO267.out))) (Kd.R_lt (rr HO273.out))) (below_size (bz HB.out))); replace HO261 := am (Kd.R_elder' (rr HO261.out) (Kd.R_base ho22) hb); replace HO267 := am (Kd.R_elder' (rr HO267.out) (Kd.R_base ho22) hb); replace HO273 := am (Kd.R_elder' (rr HO273.out) (Kd.R_base ho22) hb); replace HB := sb HB hb; clear hb ho22; obtain ⟨Ao23, co23, eo23⟩ := Kd.R_slice HO279.out; subst eo23; obtain ⟨Ao24, co24, eo24⟩ := Kd.R_slice HO276.out; subst eo24) | ((with_reducible refine gate_dst (N := 13) rfl ?_); refine rlit Kd.string 9 ([(⟨#[42]⟩ : ByteArray), (⟨#[47]⟩ : ByteArray)] : List ByteArray) [.string (⟨#[42]⟩ : ByteArray), .string (⟨#[47]⟩ : ByteArray)] ?_ (Below.refl _ _) (Nat.le_refl _) (r1s (r1s (Reps.none _ _))); intro v281 w25 ho26 hb hg_ hnew_; clear hg_ hnew_; (first | rw [← Ny280.out] at ho26 | (simp only [Int.reduceToNat] at ho26; rw [← Ny280.out] at ho26)); replace HO261 := am (Kd.R_below (rr HO261.out) hb); replace HO267 := am (Kd.R_below (rr HO267.out) hb); replace HO273 := am (Kd.R_below (rr HO273.out) hb); replace HO279 := am (Kd.R_below (rr HO279.out) hb); have HO282 := am (Kd.R_lower (Kd.R_new' (Kd.R_new' (Kd.R_new' (Kd.R_new' (Kd.R_newM (M := fun k_ => (w.heap.size ≤ k_)) ho26 (below_size (bz HB.out)) (fun k_ h_ => h_)) (Kd.R_lt (rr HO258.out))) (Kd.R_lt (rr HO264.out))) (Kd.R_lt (rr HO270.out))) (Kd.R_lt (rr HO276.out))) (below_size (bz HB.out))); replace HO258 := am (Kd.R_elder' (rr HO258.out) (Kd.R_base ho26) hb); replace HO264 := am (Kd.R_elder' (rr HO264.out) (Kd.R_base ho26) hb); replace HO270 := am (Kd.R_elder' (rr HO270.out) (Kd.R_base ho26) hb); replace HO276 := am (Kd.R_elder' (rr HO276.out) (Kd.R_base ho26) hb); replace HB := sb HB hb; clear hb ho26) | ((with_reducible refine gate_dst (N := 14) rfl ?_); refine rlit (Kd.int .i64) 3 ([6, 7] : List Int) [.int .i64 6, .int .i64 7] ?_ (Below.refl _ _) (Nat.le_refl _) (r1i (r1i (Reps.none _ _))); intro v284 w27 ho28 hb hg_ hnew_; clear hg_ hnew_; (first | rw [← Ny283.out] at ho28 | (simp only [Int.reduceToNat] at ho28; rw [← Ny283.out] at ho28)); replace HO258 := am (Kd.R_below (rr HO258.out) hb); replace HO264 := am (Kd.R_below (rr HO264.out) hb); replace HO270 := am (Kd.R_below (rr HO270.out) hb); replace HO276 := am (Kd.R_below (rr HO276.out) hb); replace HO282 := am (Kd.R_below (rr HO282.out) hb); have HO285 := am (Kd.R_lower (Kd.R_new' (Kd.R_new' (Kd.R_new' (Kd.R_new' (Kd.R_newM (M := fun k_ => (w.heap.size ≤ k_)) ho28 (below_size (bz HB.out)) (fun k_ h_ => h_)) (Kd.R_lt (rr HO261.out))) (Kd.R_lt (rr HO267.out))) (Kd.R_lt (rr HO273.out))) (Kd.R_lt (rr HO279.out))) (below_size (bz HB.out))); replace HO261 := am (Kd.R_elder' (rr HO261.out) (Kd.R_base ho28) hb); replace HO267 := am (Kd.R_elder' (rr HO267.out) (Kd.R_base ho28) hb); replace HO273 := am (Kd.R_elder' (rr HO273.out) (Kd.R_base ho28) hb); replace HO279 := am (Kd.R_elder' (rr HO279.out) (Kd.R_base ho28) hb); replace HB := sb HB hb; clear hb ho28; obtain ⟨Ao29, co29, eo29⟩ := Kd.R_slice HO285.out; subst eo29; obtain ⟨Ao30, co30, eo30⟩ := Kd.R_slice HO282.out; subst eo30) | ((with_reducible refine gate_dst (N := 16) rfl ?_); refine Kd.N_lit k143 _ 143 ?hg (N' := 16) ?hd (xs := ([(⟨y256, y259, false⟩ : S143), (⟨y262, y265, false⟩ : S143), (⟨y268, y271, true⟩ : S143), (⟨y274, y277, false⟩ : S143), (⟨y280, y283, false⟩ : S143)] : List (S143))) (inner := [.slice Ao6 y256.length co6, .slice Ao5 y259.length co5, .bool false, .slice Ao12 y262.length co12, .slice Ao11 y265.length co11, .bool false, .slice Ao18 y268.length co18, .slice Ao17 y271.length co17, .bool true, .slice Ao24 y274.length co24, .slice Ao23 y277.length co23, .bool false, .slice Ao30 y280.length co30, .slice Ao29 y283.length co29, .bool false]) (ok := (fun k_ => (w.heap.size ≤ k_))) (okp := (fun k_ => (w.heap.size ≤ k_))) ?hr ?hp (fun _ hk => hk) ((show ∀ k_, w27.heap.size ≤ k_ → (fun k_ => (w.heap.size ≤ k_)) k_ from fun k_ hk => (Nat.le_trans (below_size (bz HB.out)) hk)) _ (Nat.le_refl _)) (Below.refl _ _) (Nat.le_refl _) (by simp) ?_; (case hd => rfl); (case hg => rfl); (case hr => first | (go_simp; done) | (go_simp; rfl)); (case hp => exact (Reps.c3 (show Kd.FK k143 _ _ (⟨y256, y259, false⟩ : S143) [.slice Ao6 y256.length co6, .slice Ao5 y259.length co5, .bool false] from (k143_mkF _ _ (⟨y256, y259, false⟩ : S143) (Kd.R_reads' (Kd.R_mono (ok' := (fun k_ => (w.heap.size ≤ k_))) (HO258.out) (fun k_ hk => hk.1.1.1.1.1))).2.1 (Kd.R_F (Kd.R_mono (ok' := (fun k_ => (w.heap.size ≤ k_))) (HO258.out) (fun k_ hk => hk.1.1.1.1.1))) (Kd.R_reads' (Kd.R_mono (ok' := (fun k_ => (w.heap.size ≤ k_))) (HO261.out) (fun k_ hk => hk.1.1.1.1.1))).2.1 (Kd.R_F (Kd.R_mono (ok' := (fun k_ => (w.heap.size ≤ k_))) (HO261.out) (fun k_ hk => hk.1.1.1.1.1))))) (Reps.c3 (show Kd.FK k143 _ _ (⟨y262, y265, false⟩ : S143) [.slice Ao12 y262.length co12, .slice Ao11 y265.length co11, .bool false] from (k143_mkF _ _ (⟨y262, y265, false⟩ : S143) (Kd.R_reads' (Kd.R_mono (ok' := (fun k_ => (w.heap.size ≤ k_))) (HO264.out) (fun k_ hk => hk.1.1.1.1.1))).2.1 (Kd.R_F (Kd.R_mono (ok' := (fun k_ => (w.heap.size ≤ k_))) (HO264.out) (fun k_ hk => hk.1.1.1.1.1))) (Kd.R_reads' (Kd.R_mono (ok' := (fun k_ => (w.heap.size ≤ k_))) (HO267.out) (fun k_ hk => hk.1.1.1.1.1))).2.1 (Kd.R_F (Kd.R_mono (ok' := (fun k_ => (w.heap.size ≤ k_))) (HO267.out) (fun k_ hk => hk.1.1.1.1.1))))) (Reps.c3 (show Kd.FK k143 _ _ (⟨y268, y271, true⟩ : S143) [.slice Ao18 y268.length co18, .slice Ao17 y271.length co17, .bool true] from (k143_mkF _ _ (⟨y268, y271, true⟩ : S143) (Kd.R_reads' (Kd.R_mono (ok' := (fun k_ => (w.heap.size ≤ k_))) (HO270.out) (fun k_ hk => hk.1.1.1.1.1))).2.1 (Kd.R_F (Kd.R_mono (ok' := (fun k_ => (w.heap.size ≤ k_))) (HO270.out) (fun k_ hk => hk.1.1.1.1.1))) (Kd.R_reads' (Kd.R_mono (ok' := (fun k_ => (w.heap.size ≤ k_))) (HO273.out) (fun k_ hk => hk.1.1.1.1.1))).2.1 (Kd.R_F (Kd.R_mono (ok' := (fun k_ => (w.heap.size ≤ k_))) (HO273.out) (fun k_ hk => hk.1.1.1.1.1))))) (Reps.c3 (show Kd.FK k143 _ _ (⟨y274, y277, false⟩ : S143) [.slice Ao24 y274.length co24, .slice Ao23 y277.length co23, .bool false] from (k143_mkF _ _ (⟨y274, y277, false⟩ : S143) (Kd.R_reads' (Kd.R_mono (ok' := (fun k_ => (w.heap.size ≤ k_))) (HO276.out) (fun k_ hk => hk.1.1.1.1.1))).2.1 (Kd.R_F (Kd.R_mono (ok' := (fun k_ => (w.heap.size ≤ k_))) (HO276.out) (fun k_ hk => hk.1.1.1.1.1))) (Kd.R_reads' (Kd.R_mono (ok' := (fun k_ => (w.heap.size ≤ k_))) (HO279.out) (fun k_ hk => hk.1.1.1.1.1))).2.1 (Kd.R_F (Kd.R_mono (ok' := (fun k_ => (w.heap.size ≤ k_))) (HO279.out) (fun k_ hk => hk.1.1.1.1.1))))) (Reps.c3 (show Kd.FK k143 _ _ (⟨y280, y283, false⟩ : S143) [.slice Ao30 y280.length co30, .slice Ao29 y283.length co29, .bool false] from (k143_mkF _ _ (⟨y280, y283, false⟩ : S143) (Kd.R_reads' (Kd.R_mono (ok' := (fun k_ => (w.heap.size ≤ k_))) (HO282.out) (fun k_ hk => hk.1.1.1.1.1))).2.1 (Kd.R_F (Kd.R_mono (ok' := (fun k_ => (w.heap.size ≤ k_))) (HO282.out) (fun k_ hk => hk.1.1.1.1.1))) (Kd.R_reads' (Kd.R_mono (ok' := (fun k_ => (w.heap.size ≤ k_))) (HO285.out) (fun k_ hk => hk.1.1.1.1.1))).2.1 (Kd.R_F (Kd.R_mono (ok' := (fun k_ => (w.heap.size ≤ k_))) (HO285.out) (fun k_ hk => hk.1.1.1.1.1))))) (Reps.none _ _))))))); intro v287 w31 ho32 hb hg_ hnew_; clear hg_ hnew_; (first | rw [← Ny286.out] at ho32 | (simp only [Int.reduceToNat] at ho32; rw [← Ny286.out] at ho32)); have HO288 := am (Kd.N_lower ho32 (below_size (bz HB.out))); replace HB := sb HB hb; clear HO258 HO261 HO264 HO267 HO270 HO273 HO276 HO279 HO282 HO285 hb ho32))
 go_ret
 exact ⟨_, az, nn HO288.out, bz HB.out⟩
end Go.Proofs.YtgkemhgihbfmmaaGreatDoor.PA
end
section
namespace Go.Proofs.YtgkemhgihbfmmaaGreatDoor.PA
open Go.RowKit Go.Proofs.YtgkemhgihbfmmaaGreatDoorW.PrintWords Go.Proofs.YtgkemhgihbfmmaaGreatDoorW.PrintLast Go.Proofs.YtgkemhgihbfmmaaGreatDoorW.PrintMore
attribute [local go_sem] max2_int min2_int max_two min_two max_three min_three max_four min_four isSome_set str_gtr
set_option linter.unusedVariables false
set_option linter.unusedSimpArgs false
def expr_Parser_Need.f (k : Nat) (s0_0 : List (S136)) (s0_1 s0_2 s0_3 s0_4 s0_5 : Int) (a1 : ByteArray) : Option (Int × Int × Int × Int × Int) := (expr_Parser_Take.f k s0_0 s0_1 s0_2 s0_3 s0_4 s0_5 a1).bind fun bt289 => (if bt289.1 = true then (some (bt289.2.1, bt289.2.2.1, bt289.2.2.2.1, bt289.2.2.2.2.1, bt289.2.2.2.2.2)) else (none))
theorem expr_Parser_Need.mono : ∀ a0 a1 a2 a3 a4 a5 a6 k, LeO (expr_Parser_Need.f k a0 a1 a2 a3 a4 a5 a6) (expr_Parser_Need.f (k + 1) a0 a1 a2 a3 a4 a5 a6) := by
 intro a0 a1 a2 a3 a4 a5 a6 k
 unfold expr_Parser_Need.f
 have q0 := @expr_Parser_Take.mono; exact lmo
set_option maxHeartbeats 8000000 in
set_option maxRecDepth 100000 in
theorem expr_Parser_Need.calls (k : Nat) (g : Nat) (s0_0 : List (S136)) (s0_1 s0_2 s0_3 s0_4 s0_5 : Int) (a1 : ByteArray) (r1 r2 r3 r4 r5 : Int) (w0 w : World) (hI : IsS63 w0 w g s0_0 s0_1 s0_2 s0_3 s0_4 s0_5) (hB : Below w0.heap.size w0 w) (h : expr_Parser_Need.f k s0_0 s0_1 s0_2 s0_3 s0_4 s0_5 a1 = some (r1, r2, r3, r4, r5)) :
  Calls Tryz.prog 65 #[.pointer (some ⟨g, 0, none⟩), .string a1] w fun e w' => e = .returned (.tuple #[]) ∧ IsS63 w0 w' g s0_0 r1 r2 r3 r4 r5 ∧ Below w0.heap.size w0 w' ∧ KeepBut w w' g none := by
 have HI0 := am hI
 have HK := am (KeepBut.refl w g none)
 have HL := am hB.size
 clear hI
 have HW0 := am hB.size
 have HB := am hB
 clear hB
 have H : ((expr_Parser_Take.f k s0_0 s0_1 s0_2 s0_3 s0_4 s0_5 a1).bind fun bt289 => (if bt289.1 = true then (some (bt289.2.1, bt289.2.2.1, bt289.2.2.2.1, bt289.2.2.2.2.1, bt289.2.2.2.2.2)) else (none))) = some (r1, r2, r3, r4, r5) := h
 clear h
 replace H := obe6 H
 obtain ⟨t289, t290, t291, t292, t293, t294, A3, H⟩ := H
 by_cases c4 : t289 = true
 ·subst c4
  replace H := ift H
  simp only [Option.some.injEq, Prod.mk.injEq] at H
  obtain ⟨rfl, rfl, rfl, rfl, rfl⟩ := H
  go_enter Tryz.func65, Tryz.ntmps65
  go_wp2_with (first | ((with_reducible refine gate_callee (f := 63) rfl ?_); refine gl_ (some 6) Tryz.func63 (by kernel_rfl) #[.pointer (some ⟨g, 0, none⟩), .string a1] rfl ?_; (with_reducible refine (expr_Parser_Take.calls k g s0_0 s0_1 s0_2 s0_3 s0_4 s0_5 a1 true t290 t291 t292 t293 t294 w0 _ ?side1 ?side2 A3.out).mono ?_); (case side1 => exact hz HI0.out); (case side2 => exact bz HB.out); rintro e w5 ⟨rfl, hi, hb, hk⟩; refine ⟨_, rfl, ?_⟩; replace HK := am (KeepBut.trans (kz HK.out) hk (.inl rfl)); replace HB := am (hb); replace HI0 := am (hi); clear hb hk hi))
  first | go_end0 | ((try simp only [Exit.inBlock, Exit.then]); refine bodyPost_ret (results_none rfl _ _ _) rfl ?_)
  exact ⟨az, hz HI0.out, bz HB.out, kz HK.out⟩
 replace c4 := Bool.eq_false_iff.mpr c4
 subst c4
 replace H := iff_ H
 exact absurd H (by simp)
end Go.Proofs.YtgkemhgihbfmmaaGreatDoor.PA
end
section
namespace Go.Proofs.YtgkemhgihbfmmaaGreatDoor.PA
open Go.RowKit Go.Proofs.YtgkemhgihbfmmaaGreatDoorW.PrintWords Go.Proofs.YtgkemhgihbfmmaaGreatDoorW.PrintLast Go.Proofs.YtgkemhgihbfmmaaGreatDoorW.PrintMore
attribute [local go_sem] max2_int min2_int max_two min_two max_three min_three max_four min_four isSome_set str_gtr
set_option linter.unusedVariables false
set_option linter.unusedSimpArgs false
mutual
def expr_Parser_Value.j0 : Nat → Bool → List (S136) → Int → Int → Int → Int → Int → Option (Int × Int × Int × ByteArray × Int × Bool × Int × Int × Int × Int × Int)
 | 0, _, _, _, _, _, _, _ => none
 | k + 1, x22, x1000, x1001, x1002, x1003, x1004, x1005 => if x22 = true then (none) else (if 0 ≤ x1001 then (if x1001 < (x1000.length : Int) then (if ((rd_T136 x1000 x1001).f0) = 1 then (expr_Parser_Value.j1 k x1000 x1001 x1002 x1003 x1004 x1005 1 ((rd_T136 x1000 x1001).f3.f0) ((rd_T136 x1000 x1001).f3.f1) (⟨#[]⟩ : ByteArray) 0) else (if ((rd_T136 x1000 x1001).f0) = 2 then (none) else (if ((rd_T136 x1000 x1001).f0) = 3 then (none) else ((expr_Parser_Is.f k x1000 x1001 x1002 x1003 x1004 x1005 (⟨#[116, 114, 117, 101]⟩ : ByteArray)).bind fun bt299 => (if bt299.1 = true then (none) else ((expr_Parser_Is.f k x1000 bt299.2.1 bt299.2.2.1 bt299.2.2.2.1 bt299.2.2.2.2.1 bt299.2.2.2.2.2 (⟨#[102, 97, 108, 115, 101]⟩ : ByteArray)).bind fun bt305 => (if bt305.1 = true then (none) else ((expr_Parser_Is.f k x1000 bt305.2.1 bt305.2.2.1 bt305.2.2.2.1 bt305.2.2.2.2.1 bt305.2.2.2.2.2 (⟨#[110, 117, 108, 108]⟩ : ByteArray)).bind fun bt311 => (if bt311.1 = true then (expr_Parser_Value.j1 k x1000 bt311.2.1 bt311.2.2.1 bt311.2.2.2.1 bt311.2.2.2.2.1 bt311.2.2.2.2.2 0 0 0 (⟨#[]⟩ : ByteArray) 0) else (some (0, 0, 0, (⟨#[]⟩ : ByteArray), 0, false, bt311.2.1, bt311.2.2.1, bt311.2.2.2.1, bt311.2.2.2.2.1, bt311.2.2.2.2.2))))))))))) else (none)) else (none))
def expr_Parser_Value.j1 : Nat → List (S136) → Int → Int → Int → Int → Int → Int → Int → Int → ByteArray → Int → Option (Int × Int × Int × ByteArray × Int × Bool × Int × Int × Int × Int × Int)
 | 0, _, _, _, _, _, _, _, _, _, _, _ => none
 | k + 1, x1000, x1001, x1002, x1003, x1004, x1005, x299000, x299001, x299002, x299003, x299004 => some (x299000, x299001, x299002, x299003, x299004, true, wrap64 (x1001 + 1), x1002, x1003, x1004, x1005)
end
def expr_Parser_Value.f (k : Nat) (s0_0 : List (S136)) (s0_1 s0_2 s0_3 s0_4 s0_5 : Int) : Option (Int × Int × Int × ByteArray × Int × Bool × Int × Int × Int × Int × Int) := if s0_4 = 0 then (expr_Parser_Value.j0 k (decide (s0_1 ≥ (s0_0.length : Int))) s0_0 s0_1 s0_2 s0_3 s0_4 s0_5) else (expr_Parser_Value.j0 k true s0_0 s0_1 s0_2 s0_3 s0_4 s0_5)
theorem expr_Parser_Value.mono_l : ∀ k, (∀ y0 y1 y2 y3 y4 y5 y6, LeO (expr_Parser_Value.j0 k y0 y1 y2 y3 y4 y5 y6) (expr_Parser_Value.j0 (k + 1) y0 y1 y2 y3 y4 y5 y6)) ∧ (∀ y0 y1 y2 y3 y4 y5 y6 y7 y8 y9 y10, LeO (expr_Parser_Value.j1 k y0 y1 y2 y3 y4 y5 y6 y7 y8 y9 y10) (expr_Parser_Value.j1 (k + 1) y0 y1 y2 y3 y4 y5 y6 y7 y8 y9 y10))
 | 0 => ⟨fun _ _ _ _ _ _ _ r h => by simp [expr_Parser_Value.j0] at h, fun _ _ _ _ _ _ _ _ _ _ _ r h => by simp [expr_Parser_Value.j1] at h⟩
 | k + 1 => by
  obtain ⟨ih0, ih1⟩ := expr_Parser_Value.mono_l k
  refine ⟨?_, ?_⟩
  ·intro y0 y1 y2 y3 y4 y5 y6
   unfold expr_Parser_Value.j0
   have q0 := @expr_Parser_Is.mono; exact lmo
  intro y0 y1 y2 y3 y4 y5 y6 y7 y8 y9 y10
  unfold expr_Parser_Value.j1
  have q0 := @expr_Parser_Is.mono; exact lmo
theorem expr_Parser_Value.mono : ∀ a0 a1 a2 a3 a4 a5 k, LeO (expr_Parser_Value.f k a0 a1 a2 a3 a4 a5) (expr_Parser_Value.f (k + 1) a0 a1 a2 a3 a4 a5) := by
 intro a0 a1 a2 a3 a4 a5 k
 obtain ⟨ih0, ih1⟩ := expr_Parser_Value.mono_l k
 unfold expr_Parser_Value.f
 have q0 := @expr_Parser_Is.mono; exact lmo
def expr_Parser_Value.T1 : Bool × List (List Nat × List Nat) := (true, [([], []), ([0], [0]), ([1], [1]), ([2], [2]), ([3], [3]), ([4], [4]), ([5], [5]), ([6, 5], [5, 6]), ([7, 5], [5, 7]), ([8, 5], [5, 8]), ([5], [5]), ([10, 5], [5, 10]), ([11, 5], [5, 11]), ([12, 5], [5, 12]), ([13, 5], [5, 13]), ([9, 14, 5], [5, 9, 14]), ([5, 15], [5, 15])])
def expr_Parser_Value.B1 : List Nat := [0, 1, 3, 7, 15, 31, 63, 127, 255, 511, 63, 1087, 3135, 7231, 15423, 32767, 65535]
theorem expr_Parser_Value.tab1 : rtab .any (opsOf Tryz.f150 1) = expr_Parser_Value.T1 := by kernel_rfl
theorem expr_Parser_Value.bits1 : waitsOk expr_Parser_Value.T1.2 expr_Parser_Value.B1 = true := by kernel_rfl
def expr_Parser_Value.T3 : Bool × List (List Nat × List Nat) := (true, [([], []), ([0], [0]), ([1], [1]), ([2], [2]), ([], []), ([4], [4]), ([5], [5]), ([6], [6]), ([3, 7], [3, 7]), ([8], [8]), ([], []), ([10, 9, 0, 1, 2, 3, 4, 5, 6, 7, 8, 9, 10], [9, 10])])
def expr_Parser_Value.B3 : List Nat := [0, 1, 3, 7, 0, 16, 48, 112, 255, 511, 0, 2047]
theorem expr_Parser_Value.tab3 : rtab .any (opsOf Tryz.f150 3) = expr_Parser_Value.T3 := by kernel_rfl
theorem expr_Parser_Value.bits3 : waitsOk expr_Parser_Value.T3.2 expr_Parser_Value.B3 = true := by kernel_rfl
set_option maxHeartbeats 8000000 in
set_option maxRecDepth 100000 in
theorem expr_Parser_Value.calls (k : Nat) (g : Nat) (s0_0 : List (S136)) (s0_1 s0_2 s0_3 s0_4 s0_5 r1 r2 r3 : Int) (r4 : ByteArray) (r5 : Int) (r6 : Bool) (r7 r8 r9 r10 r11 : Int) (w0 w : World) (hI : IsS63 w0 w g s0_0 s0_1 s0_2 s0_3 s0_4 s0_5) (hB : Below w0.heap.size w0 w) (h : expr_Parser_Value.f k s0_0 s0_1 s0_2 s0_3 s0_4 s0_5 = some (r1, r2, r3, r4, r5, r6, r7, r8, r9, r10, r11)) :
  Calls Tryz.prog 150 #[.pointer (some ⟨g, 0, none⟩)] w fun e w' => e = .returned (.tuple #[.agg #[.int .i64 r1, .int .i64 r2, .int .i64 r3, .string r4, .int .i64 r5], .bool r6]) ∧ IsS63 w0 w' g s0_0 r7 r8 r9 r10 r11 ∧ Below w0.heap.size w0 w' ∧ KeepBut w w' g none := by
 have hu25 := Tryz.underlying25
 have hu136 := Tryz.underlying136
 have hu23 := Tryz.underlying23
 have HI0 := am hI
 have HK := am (KeepBut.refl w g none)
 have HL := am hB.size
 clear hI
 have HW0 := am hB.size
 have HB := am hB
 clear hB
 have H : (if s0_4 = 0 then (expr_Parser_Value.j0 k (decide (s0_1 ≥ (s0_0.length : Int))) s0_0 s0_1 s0_2 s0_3 s0_4 s0_5) else (expr_Parser_Value.j0 k true s0_0 s0_1 s0_2 s0_3 s0_4 s0_5)) = some (r1, r2, r3, r4, r5, r6, r7, r8, r9, r10, r11) := h
 clear h
 have HC2 := am H
 clear H
 go_enter Tryz.func150, Tryz.ntmps150
 go_upto_region 1 with (first | ((with_reducible refine gate_dst (N := 2) rfl ?_); (try (refine gate_guard (by rfl) ?_; dsimp only)); refine bev (#[.int .i64 0, .int .i64 0, .int .i64 0, .string (⟨#[]⟩ : ByteArray), .int .i64 0]) 25 ?_; intro gb295 hg w3 hbox hb; replace HB := sb HB hb; have BK295 := am (hbox); have GW295 := gk hg HK; have GE295 := am (Nat.le_trans HW0.out GW295.out); replace HK := am (KeepBut.trans (kz HK.out) (KeepBut.of_below hb g none) (.inl rfl)); have NB0_295 := am ((nlt (a := g) hg (IsS63.lt (show IsS63 w0 _ g s0_0 s0_1 s0_2 s0_3 s0_4 s0_5 from hz HI0.out)))); have NB295_0 := am ((ngt (a := g) hg (IsS63.lt (show IsS63 w0 _ g s0_0 s0_1 s0_2 s0_3 s0_4 s0_5 from hz HI0.out)))); replace HI0 := am (IsS63.below (hz HI0.out) hb); clear hb hbox hg))
 (try simp only [Act.put, List.setIfInBounds_toArray, List.set_cons_zero, List.set_cons_succ])
 go_cut [22] (fun v22 wc => ∃ (kq : Nat) (x22_1 : Bool), v22 = .bool x22_1 ∧ Aside0 (expr_Parser_Value.j0 kq x22_1 s0_0 s0_1 s0_2 s0_3 s0_4 s0_5 = some (r1, r2, r3, r4, r5, r6, r7, r8, r9, r10, r11)) ∧ Aside0 (kq ≤ k) ∧ Aside0 (wc.heap[gb295]? = some (.cells #[.int .i64 0, .int .i64 0, .int .i64 0, .string (⟨#[]⟩ : ByteArray), .int .i64 0] 25 (0, 0))) ∧ Aside0 (IsS63 w0 wc g s0_0 s0_1 s0_2 s0_3 s0_4 s0_5) ∧ Aside0 (KeepBut w wc g none) ∧ Aside0 (Below w0.heap.size w0 wc))
 case first =>
  have H := HC2.out
  clear HC2
  by_cases c4 : s0_4 = 0
  ·replace H := ipe c4 H
   obtain ⟨H, c4b0, c4b1⟩ := H
   clear c4
   (first | rw [c4b0] | (simp only [i64_w, i32_w]; rw [c4b0]) | skip)
   have H' := am H
   clear H
   try go_wp2
   replace BK295 := am (blk_drew BK295.out)
   replace HI0 := am (IsS63.drew HI0.out)
   replace HK := am (keep_drew HK.out)
   replace HB := am (below_drew1 HB.out)
   obtain ⟨ASz6_0, cSz6_0, HSz6_0, Z6_0, Z6_1, Z6_2, Z6_3, Z6_4, Z6_5, F6_1, F6_2, F6_3, F6_4, F6_5⟩ := open63 HI0.out
   refine start_ (n := 17) (S := fun w' => w'.cell? ⟨g, 0, none⟩ = some (.slice ASz6_0 s0_0.length cSz6_0) ∧ w'.cell? ⟨g, 1, none⟩ = some (.int .i64 s0_1) ∧ w'.cell? ⟨g, 2, none⟩ = some (.int .i64 s0_2) ∧ w'.cell? ⟨g, 3, none⟩ = some (.int .i64 s0_3) ∧ w'.cell? ⟨g, 4, none⟩ = some (.int .i64 s0_4) ∧ w'.cell? ⟨g, 5, none⟩ = some (.int .i64 s0_5)) (ds := []) (bts0 17) (by kernel_rfl) rfl rfl ⟨Z6_0, Z6_1, Z6_2, Z6_3, Z6_4, Z6_5⟩ (fun hHeld => ?_); refine with_tabW expr_Parser_Value.tab1 expr_Parser_Value.bits1 (fun HT_ HW_ => ?_)
   generalize w3.drew = w5 at BK295 HI0 HK HB hHeld ⊢
   refine pu 0 (some 6) (bts 17 1) (any_of HT_.out (by kernel_rfl)) ?_
   refine pu 1 (some 7) (bts 17 3) (any_of HT_.out (by kernel_rfl)) ?_
   refine pu 2 (some 8) (bts 17 7) (any_of HT_.out (by kernel_rfl)) ?_
   refine ta 3 (some 9) (bts 17 15) (take_ofW HT_.out HW_.out (by kernel_rfl)) hHeld ?_
   refine pu 4 (some 10) (bts 17 31) (any_of HT_.out (by kernel_rfl)) ?_
   refine pu 5 (some 11) (bts 17 63) (any_of HT_.out (by kernel_rfl)) ?_
   refine pu 6 (some 12) (bts 17 127) (any_of HT_.out (by kernel_rfl)) ?_
   refine pu 7 (some 13) (bts 17 255) (any_of HT_.out (by kernel_rfl)) ?_
   refine pu 8 (some 14) (bts 17 511) (any_of HT_.out (by kernel_rfl)) ?_
   refine pu 10 (some 16) (bts 17 1535) (any_of HT_.out (by kernel_rfl)) ?_
   refine pu 11 (some 17) (bts 17 3583) (any_of HT_.out (by kernel_rfl)) ?_
   refine pu 12 (some 18) (bts 17 7679) (any_of HT_.out (by kernel_rfl)) ?_
   refine ta 9 (some 15) (bts 17 8191) (take_ofW HT_.out HW_.out (by kernel_rfl)) hHeld ?_
   refine ta 13 (some 19) (bts 17 16383) (take_ofW HT_.out HW_.out (by kernel_rfl)) hHeld ?_
   refine pu 14 (some 20) (bts 17 32767) (any_of HT_.out (by kernel_rfl)) ?_
   refine pu 15 (some 21) (bts 17 65535) (any_of HT_.out (by kernel_rfl)) ?_
   refine pu 16 (some 22) (bts 17 131071) (any_of HT_.out (by kernel_rfl)) ?_
   refine done_ (done_of HT_.out (by kernel_rfl)) ?_
   try go_wp2
   go_meet
   case rel => exact ⟨_, (decide (s0_1 ≥ (s0_0.length : Int))), sz, H', ⟨oz⟩, ⟨bk BK295.out⟩, ⟨hz HI0.out⟩, ⟨kz HK.out⟩, ⟨bz HB.out⟩⟩
  replace H := ine c4 H
  obtain ⟨H, c4b0, c4b1⟩ := H
  (first | rw [c4b0] | (simp only [i64_w, i32_w]; rw [c4b0]) | skip)
  have H' := am H
  clear H
  try go_wp2
  replace BK295 := am (blk_drew BK295.out)
  replace HI0 := am (IsS63.drew HI0.out)
  replace HK := am (keep_drew HK.out)
  replace HB := am (below_drew1 HB.out)
  obtain ⟨ASz8_0, cSz8_0, HSz8_0, Z8_0, Z8_1, Z8_2, Z8_3, Z8_4, Z8_5, F8_1, F8_2, F8_3, F8_4, F8_5⟩ := open63 HI0.out
  refine start_ (n := 17) (S := fun w' => w'.cell? ⟨g, 0, none⟩ = some (.slice ASz8_0 s0_0.length cSz8_0) ∧ w'.cell? ⟨g, 1, none⟩ = some (.int .i64 s0_1) ∧ w'.cell? ⟨g, 2, none⟩ = some (.int .i64 s0_2) ∧ w'.cell? ⟨g, 3, none⟩ = some (.int .i64 s0_3) ∧ w'.cell? ⟨g, 4, none⟩ = some (.int .i64 s0_4) ∧ w'.cell? ⟨g, 5, none⟩ = some (.int .i64 s0_5)) (ds := []) (bts0 17) (by kernel_rfl) rfl rfl ⟨Z8_0, Z8_1, Z8_2, Z8_3, Z8_4, Z8_5⟩ (fun hHeld => ?_); refine with_tabW expr_Parser_Value.tab1 expr_Parser_Value.bits1 (fun HT_ HW_ => ?_)
  generalize w3.drew = w7 at BK295 HI0 HK HB hHeld ⊢
  refine pu 0 (some 6) (bts 17 1) (any_of HT_.out (by kernel_rfl)) ?_
  refine pu 1 (some 7) (bts 17 3) (any_of HT_.out (by kernel_rfl)) ?_
  refine pu 2 (some 8) (bts 17 7) (any_of HT_.out (by kernel_rfl)) ?_
  refine ta 3 (some 9) (bts 17 15) (take_ofW HT_.out HW_.out (by kernel_rfl)) hHeld ?_
  refine pu 4 (some 10) (bts 17 31) (any_of HT_.out (by kernel_rfl)) ?_
  refine pu 5 (some 11) (bts 17 63) (any_of HT_.out (by kernel_rfl)) ?_
  refine pn 6 (some 12) (bts 17 127) (any_of HT_.out (by kernel_rfl)) ?_
  refine pn 7 (some 13) (bts 17 255) (any_of HT_.out (by kernel_rfl)) ?_
  refine pn 8 (some 14) (bts 17 511) (any_of HT_.out (by kernel_rfl)) ?_
  refine pn 9 (some 15) (bts 17 1023) (any_of HT_.out (by kernel_rfl)) ?_
  refine pn 10 (some 16) (bts 17 2047) (any_of HT_.out (by kernel_rfl)) ?_
  refine pn 11 (some 17) (bts 17 4095) (any_of HT_.out (by kernel_rfl)) ?_
  refine pn 12 (some 18) (bts 17 8191) (any_of HT_.out (by kernel_rfl)) ?_
  refine pn 13 (some 19) (bts 17 16383) (any_of HT_.out (by kernel_rfl)) ?_
  refine pn 14 (some 20) (bts 17 32767) (any_of HT_.out (by kernel_rfl)) ?_
  refine pn 15 (some 21) (bts 17 65535) (any_of HT_.out (by kernel_rfl)) ?_
  refine pu 16 (some 22) (bts 17 131071) (any_of HT_.out (by kernel_rfl)) ?_
  refine done_ (done_of HT_.out (by kernel_rfl)) ?_
  try go_wp2
  go_meet
  case rel => exact ⟨_, (true), sz, H', ⟨oz⟩, ⟨bk BK295.out⟩, ⟨hz HI0.out⟩, ⟨kz HK.out⟩, ⟨bz HB.out⟩⟩
 case rest =>
  clear HC2
  skip
  obtain ⟨kq, x22_1, rfl, HA, HJ1, BK295, HI0, HK, HB⟩ := hcut
  cases kq with
  | zero => exact absurd HA.out (by simp [expr_Parser_Value.j0])
  | succ kj1 =>
   have H := HA.out
   clear HA
   simp only [expr_Parser_Value.j0] at H
   by_cases c9 : x22_1 = true
   ·subst c9
    replace H := ift H
    exact absurd H (by simp)
   replace c9 := Bool.eq_false_iff.mpr c9
   subst c9
   replace H := iff_ H
   by_cases c10 : 0 ≤ s0_1
   ·rw [if_pos c10] at H
    have c10b0 : decide (0 ≤ s0_1) = true := decide_eq_true c10
    clear c10
    by_cases c11 : s0_1 < (s0_0.length : Int)
    ·rw [if_pos c11] at H
     have c11b0 : decide (s0_1 < (s0_0.length : Int)) = true := decide_eq_true c11
     clear c11
     have HC12 := am H
     clear H
     try go_wp2
     replace BK295 := am (blk_drew BK295.out)
     replace HI0 := am (IsS63.drew HI0.out)
     replace HK := am (keep_drew HK.out)
     replace HB := am (below_drew1 HB.out)
     obtain ⟨ASz14_0, cSz14_0, HSz14_0, Z14_0, Z14_1, Z14_2, Z14_3, Z14_4, Z14_5, F14_1, F14_2, F14_3, F14_4, F14_5⟩ := open63 HI0.out
     have p296 : 0 ≤ (s0_1 : Int) := of_decide_eq_true tz
     have q296 : s0_1 < (s0_0.length : Int) := of_decide_eq_true tz
     obtain ⟨ad296, e296, hx296_0, hx296_1, hx296_2, hx296_3, hx296_4, hx296_5⟩ := at_T136 HSz14_0 s0_1 p296 q296
     have hw296_5 := hx296_5
     have hw296_4 := hx296_4
     have hw296_3 := hx296_3
     have hw296_2 := hx296_2
     have hw296_1 := hx296_1
     have hw296_0 := hx296_0
     cases e296
     replace hx296_0 := pw_cell_below HB.out hx296_0
     replace hx296_1 := pw_cell_below HB.out hx296_1
     replace hx296_2 := pw_cell_below HB.out hx296_2
     replace hx296_3 := pw_cell_below HB.out hx296_3
     replace hx296_4 := pw_cell_below HB.out hx296_4
     replace hx296_5 := pw_cell_below HB.out hx296_5
     replace p296 := eq_true p296
     replace q296 := eq_true q296
     refine start_ (n := 12) (S := fun w' => w'.cell? ⟨g, 0, none⟩ = some (.slice (some ad296) s0_0.length cSz14_0) ∧ w'.cell? ⟨g, 1, none⟩ = some (.int .i64 s0_1) ∧ w'.cell? ⟨g, 2, none⟩ = some (.int .i64 s0_2) ∧ w'.cell? ⟨g, 3, none⟩ = some (.int .i64 s0_3) ∧ w'.cell? ⟨g, 4, none⟩ = some (.int .i64 s0_4) ∧ w'.cell? ⟨g, 5, none⟩ = some (.int .i64 s0_5) ∧ w'.cell? (ad296.add ((s0_1).toNat * 6)) = some (.int .i64 ((rd_T136 s0_0 s0_1).f0)) ∧ w'.cell? ⟨(ad296.add ((s0_1).toNat * 6)).block, (ad296.add ((s0_1).toNat * 6)).off + 1, none⟩ = some (.int .i64 ((rd_T136 s0_0 s0_1).f1)) ∧ w'.cell? ⟨(ad296.add ((s0_1).toNat * 6)).block, (ad296.add ((s0_1).toNat * 6)).off + 2, none⟩ = some (.string ((rd_T136 s0_0 s0_1).f2)) ∧ w'.cell? ⟨(ad296.add ((s0_1).toNat * 6)).block, (ad296.add ((s0_1).toNat * 6)).off + 3, none⟩ = some (.int .i64 ((rd_T136 s0_0 s0_1).f3.f0)) ∧ w'.cell? ⟨(ad296.add ((s0_1).toNat * 6)).block, (ad296.add ((s0_1).toNat * 6)).off + 4, none⟩ = some (.int .i64 ((rd_T136 s0_0 s0_1).f3.f1)) ∧ w'.cell? ⟨(ad296.add ((s0_1).toNat * 6)).block, (ad296.add ((s0_1).toNat * 6)).off + 5, none⟩ = some (.int .i64 ((rd_T136 s0_0 s0_1).f4))) (ds := []) (bts0 12) (by kernel_rfl) rfl rfl ⟨Z14_0, Z14_1, Z14_2, Z14_3, Z14_4, Z14_5, (hbw HB.out hw296_0), (hbw HB.out hw296_1), (hbw HB.out hw296_2), (hbw HB.out hw296_3), (hbw HB.out hw296_4), (hbw HB.out hw296_5)⟩ (fun hHeld => ?_); refine with_tabW expr_Parser_Value.tab3 expr_Parser_Value.bits3 (fun HT_ HW_ => ?_)
     generalize wc.drew = w13 at BK295 HI0 HK HB hx296_0 hx296_1 hx296_2 hx296_3 hx296_4 hx296_5 hHeld ⊢
     refine pu 0 (some 24) (bts 12 1) (any_of HT_.out (by kernel_rfl)) ?_
     refine pu 1 (some 25) (bts 12 3) (any_of HT_.out (by kernel_rfl)) ?_
     refine pu 2 (some 26) (bts 12 7) (any_of HT_.out (by kernel_rfl)) ?_
     refine pu 4 (some 28) (bts 12 23) (any_of HT_.out (by kernel_rfl)) ?_
     refine pu 5 (some 29) (bts 12 55) (any_of HT_.out (by kernel_rfl)) ?_
     refine pu 6 (some 30) (bts 12 119) (any_of HT_.out (by kernel_rfl)) ?_
     refine ta 3 (some 27) (bts 12 127) (take_ofW HT_.out HW_.out (by kernel_rfl)) hHeld ?_
     refine ta 7 (some 31) (bts 12 255) (take_ofW HT_.out HW_.out (by kernel_rfl)) hHeld ?_
     refine pu 8 (some 32) (bts 12 511) (any_of HT_.out (by kernel_rfl)) ?_
     refine ta 9 (some 33) (bts 12 1023) (take_ofW HT_.out HW_.out (by kernel_rfl)) hHeld ?_
     refine one_ (i := 10) (N := some 4) (bts 12 2047) rfl rfl (one_of HT_.out (by kernel_rfl)) (by decide) (fun K hK => ?_)
     refine box_step ?hg (N := 4) ?hd (cs := #[.int .i64 0, .int .i64 0, .string (⟨#[]⟩ : ByteArray), .int .i64 0, .int .i64 0, .int .i64 0]) (t := 136) ?hr ?_; (case hd => rfl); (case hg => rfl); (case hr => first | (go_simp; done) | (go_simp; rfl))
     intro gb297 hg w15 hbox hb
     have HS0_ := (hb.cell (World.block_lt_of_cell? _ _ (hHeld.1))).trans (hHeld.1)
     have HS1_ := (hb.cell (World.block_lt_of_cell? _ _ (hHeld.2.1))).trans (hHeld.2.1)
     have HS2_ := (hb.cell (World.block_lt_of_cell? _ _ (hHeld.2.2.1))).trans (hHeld.2.2.1)
     have HS3_ := (hb.cell (World.block_lt_of_cell? _ _ (hHeld.2.2.2.1))).trans (hHeld.2.2.2.1)
     have HS4_ := (hb.cell (World.block_lt_of_cell? _ _ (hHeld.2.2.2.2.1))).trans (hHeld.2.2.2.2.1)
     have HS5_ := (hb.cell (World.block_lt_of_cell? _ _ (hHeld.2.2.2.2.2.1))).trans (hHeld.2.2.2.2.2.1)
     replace HB := sb HB hb
     have BK297 := am (hbox)
     have GW297 := gk hg HK
     have GE297 := am (Nat.le_trans HW0.out GW297.out)
     replace HK := am (KeepBut.trans (kz HK.out) (KeepBut.of_below hb g none) (.inl rfl))
     have NB295_297 := na hg BK295
     have NB297_295 := nb hg BK295
     replace BK295 := kb BK295 hb
     have NB0_297 := am ((nlt (a := g) hg (IsS63.lt (show IsS63 w0 _ g s0_0 s0_1 s0_2 s0_3 s0_4 s0_5 from hz HI0.out))))
     have NB297_0 := am ((ngt (a := g) hg (IsS63.lt (show IsS63 w0 _ g s0_0 s0_1 s0_2 s0_3 s0_4 s0_5 from hz HI0.out))))
     replace HI0 := am (IsS63.below (hz HI0.out) hb)
     clear hb hbox hg
     refine hK.out _ _ ⟨HS0_, HS1_, HS2_, HS3_, HS4_, HS5_, (hbw HB.out hw296_0), (hbw HB.out hw296_1), (hbw HB.out hw296_2), (hbw HB.out hw296_3), (hbw HB.out hw296_4), (hbw HB.out hw296_5)⟩ (fun hHeld => ?_)
     clear hK K
     refine norm_ (a' := ?_) ?_ ?_
     rotate_left
     ·show Act.put _ (some 4) _ = _
      simp only [Act.put, List.setIfInBounds_toArray, List.set_cons_zero, List.set_cons_succ, i64_w, i32_w]
      rfl
     refine one_ (i := 11) (N := none) (bts 12 4095) rfl rfl (one_of HT_.out (by kernel_rfl)) (by decide) (fun K hK => ?_)
     have hs16 : w15.cell? ⟨gb297, 0, none⟩ = some (.int .i64 0) := (blk_cell BK297.out 0).trans rfl
     have hfs16 := blk_frozen BK297.out 0
     have hns16_0 := NB295_297.out
     have hms16_0 := NB297_295.out
     have hs17 : w15.cell? ⟨gb297, 1, none⟩ = some (.int .i64 0) := (blk_cell BK297.out 1).trans rfl
     have hfs17 := blk_frozen BK297.out 1
     have hns17_0 := NB295_297.out
     have hms17_0 := NB297_295.out
     have hs18 : w15.cell? ⟨gb297, 2, none⟩ = some (.string (⟨#[]⟩ : ByteArray)) := (blk_cell BK297.out 2).trans rfl
     have hfs18 := blk_frozen BK297.out 2
     have hns18_0 := NB295_297.out
     have hms18_0 := NB297_295.out
     have hs19 : w15.cell? ⟨gb297, 3, none⟩ = some (.int .i64 0) := (blk_cell BK297.out 3).trans rfl
     have hfs19 := blk_frozen BK297.out 3
     have hns19_0 := NB295_297.out
     have hms19_0 := NB297_295.out
     have hs20 : w15.cell? ⟨gb297, 4, none⟩ = some (.int .i64 0) := (blk_cell BK297.out 4).trans rfl
     have hfs20 := blk_frozen BK297.out 4
     have hns20_0 := NB295_297.out
     have hms20_0 := NB297_295.out
     have hs21 : w15.cell? ⟨gb297, 5, none⟩ = some (.int .i64 0) := (blk_cell BK297.out 5).trans rfl
     have hfs21 := blk_frozen BK297.out 5
     have hns21_0 := NB295_297.out
     have hms21_0 := NB297_295.out
     refine skip_ (w1 := ?_) (by rfl) rfl ?_ ?_
     rotate_left
     ·go_simp
      rfl
     refine hK.out _ _ ⟨(cf hHeld.1), (cf hHeld.2.1), (cf hHeld.2.2.1), (cf hHeld.2.2.2.1), (cf hHeld.2.2.2.2.1), (cf hHeld.2.2.2.2.2.1), (cg (nlx hw296_0 HL.out GW297.out) hHeld.2.2.2.2.2.2.1), (cg (nlx hw296_1 HL.out GW297.out) hHeld.2.2.2.2.2.2.2.1), (cg (nlx hw296_2 HL.out GW297.out) hHeld.2.2.2.2.2.2.2.2.1), (cg (nlx hw296_3 HL.out GW297.out) hHeld.2.2.2.2.2.2.2.2.2.1), (cg (nlx hw296_4 HL.out GW297.out) hHeld.2.2.2.2.2.2.2.2.2.2.1), (cg (nlx hw296_5 HL.out GW297.out) hHeld.2.2.2.2.2.2.2.2.2.2.2)⟩ (fun hHeld => ?_)
     clear hK K
     refine done_ (done_of HT_.out (by kernel_rfl)) ?_
     go_upto_block 0 with (first | ((with_reducible refine gate_dst (N := 5) rfl ?_); (try (refine gate_guard (by rfl) ?_; dsimp only)); refine bev (#[.int .i64 0, .int .i64 0, .int .i64 0, .string (⟨#[]⟩ : ByteArray), .int .i64 0]) 25 ?_; intro gb298 hg w22 hbox hb; replace HB := sb HB hb; have BK298 := am (hbox); have GW298 := gk hg HK; have GE298 := am (Nat.le_trans HW0.out GW298.out); replace HK := am (KeepBut.trans (kz HK.out) (KeepBut.of_below hb g none) (.inl rfl)); have NB295_298 := am ((by rw [hg]; exact Nat.ne_of_lt (blk_lt (g := gb295) (o := .cells #[.int .i64 0, .int .i64 0, .int .i64 0, .string (⟨#[]⟩ : ByteArray), .int .i64 0] 25 (0, 0)) (bp BK295.out)) : gb295 ≠ gb298)); have NB298_295 := am ((by rw [hg]; exact Nat.ne_of_gt (blk_lt (g := gb295) (o := .cells #[.int .i64 0, .int .i64 0, .int .i64 0, .string (⟨#[]⟩ : ByteArray), .int .i64 0] 25 (0, 0)) (bp BK295.out)) : gb298 ≠ gb295)); replace BK295 := am (blk_below (g := gb295) (o := .cells #[.int .i64 0, .int .i64 0, .int .i64 0, .string (⟨#[]⟩ : ByteArray), .int .i64 0] 25 (0, 0)) (bp BK295.out) hb); have NB297_298 := am ((by rw [hg]; exact Nat.ne_of_lt (blk_lt (g := gb297) (o := .cells #[.int .i64 ((rd_T136 s0_0 s0_1).f0), .int .i64 ((rd_T136 s0_0 s0_1).f1), .string ((rd_T136 s0_0 s0_1).f2), .int .i64 ((rd_T136 s0_0 s0_1).f3.f0), .int .i64 ((rd_T136 s0_0 s0_1).f3.f1), .int .i64 ((rd_T136 s0_0 s0_1).f4)] 136 (0, 0)) (bp BK297.out)) : gb297 ≠ gb298)); have NB298_297 := am ((by rw [hg]; exact Nat.ne_of_gt (blk_lt (g := gb297) (o := .cells #[.int .i64 ((rd_T136 s0_0 s0_1).f0), .int .i64 ((rd_T136 s0_0 s0_1).f1), .string ((rd_T136 s0_0 s0_1).f2), .int .i64 ((rd_T136 s0_0 s0_1).f3.f0), .int .i64 ((rd_T136 s0_0 s0_1).f3.f1), .int .i64 ((rd_T136 s0_0 s0_1).f4)] 136 (0, 0)) (bp BK297.out)) : gb298 ≠ gb297)); replace BK297 := am (blk_below (g := gb297) (o := .cells #[.int .i64 ((rd_T136 s0_0 s0_1).f0), .int .i64 ((rd_T136 s0_0 s0_1).f1), .string ((rd_T136 s0_0 s0_1).f2), .int .i64 ((rd_T136 s0_0 s0_1).f3.f0), .int .i64 ((rd_T136 s0_0 s0_1).f3.f1), .int .i64 ((rd_T136 s0_0 s0_1).f4)] 136 (0, 0)) (bp BK297.out) hb); have NB0_298 := am ((nlt (a := g) hg (IsS63.lt (show IsS63 w0 _ g s0_0 s0_1 s0_2 s0_3 s0_4 s0_5 from hz HI0.out)))); have NB298_0 := am ((ngt (a := g) hg (IsS63.lt (show IsS63 w0 _ g s0_0 s0_1 s0_2 s0_3 s0_4 s0_5 from hz HI0.out)))); replace HI0 := am (IsS63.below (show IsS63 w0 ((((((w15.setCell ⟨gb297, 0, none⟩ (.int .i64 ((rd_T136 s0_0 s0_1).f0))).setCell ⟨gb297, 1, none⟩ (.int .i64 ((rd_T136 s0_0 s0_1).f1))).setCell ⟨gb297, 2, none⟩ (.string ((rd_T136 s0_0 s0_1).f2))).setCell ⟨gb297, 3, none⟩ (.int .i64 ((rd_T136 s0_0 s0_1).f3.f0))).setCell ⟨gb297, 4, none⟩ (.int .i64 ((rd_T136 s0_0 s0_1).f3.f1))).setCell ⟨gb297, 5, none⟩ (.int .i64 ((rd_T136 s0_0 s0_1).f4))) g s0_0 s0_1 s0_2 s0_3 s0_4 s0_5 from hz HI0.out) hb); clear hb hbox hg; have hnb23 := NB298_295.out; have hnc23 := NB295_298.out; have hnb24 := NB298_297.out; have hnc24 := NB297_298.out; have hnb25 := NB298_0.out; have hnc25 := NB0_298.out; obtain ⟨Z26_0, Z26_1, Z26_2, Z26_3, Z26_4, F26_0, F26_1, F26_2, F26_3, F26_4⟩ := cz5 BK298.out))
     (try simp only [Act.put, List.setIfInBounds_toArray, List.set_cons_zero, List.set_cons_succ])
     go_cut [] (fun wc => ∃ (kq : Nat) (x1001_11 x1002_11 x1003_11 x1004_11 x1005_11 x296000_11 x296001_11 x296002_11 : Int) (x296003_11 : ByteArray) (x296004_11 x299000_11 x299001_11 x299002_11 : Int) (x299003_11 : ByteArray) (x299004_11 : Int), Aside0 (expr_Parser_Value.j1 kq s0_0 x1001_11 x1002_11 x1003_11 x1004_11 x1005_11 x299000_11 x299001_11 x299002_11 x299003_11 x299004_11 = some (r1, r2, r3, r4, r5, r6, r7, r8, r9, r10, r11)) ∧ Aside0 (kq ≤ kj1) ∧ Aside0 (wc.heap[gb295]? = some (.cells #[.int .i64 x296000_11, .int .i64 x296001_11, .int .i64 x296002_11, .string x296003_11, .int .i64 x296004_11] 25 (0, 0))) ∧ Aside0 (wc.heap[gb297]? = some (.cells #[.int .i64 ((rd_T136 s0_0 s0_1).f0), .int .i64 ((rd_T136 s0_0 s0_1).f1), .string ((rd_T136 s0_0 s0_1).f2), .int .i64 ((rd_T136 s0_0 s0_1).f3.f0), .int .i64 ((rd_T136 s0_0 s0_1).f3.f1), .int .i64 ((rd_T136 s0_0 s0_1).f4)] 136 (0, 0))) ∧ Aside0 (wc.heap[gb298]? = some (.cells #[.int .i64 x299000_11, .int .i64 x299001_11, .int .i64 x299002_11, .string x299003_11, .int .i64 x299004_11] 25 (0, 0))) ∧ Aside0 (IsS63 w0 wc g s0_0 x1001_11 x1002_11 x1003_11 x1004_11 x1005_11) ∧ Aside0 (KeepBut w wc g none) ∧ Aside0 (Below w0.heap.size w0 wc))
     case first =>
      have H := HC12.out
      clear HC12
      have HC27 := am H
      clear H
      have hnb28 := NB297_295.out
      have hnc28 := NB295_297.out
      have hnb29 := NB297_298.out
      have hnc29 := NB298_297.out
      have hnb30 := NB297_0.out
      have hnc30 := NB0_297.out
      obtain ⟨Z31_0, Z31_1, Z31_2, Z31_3, Z31_4, Z31_5, F31_0, F31_1, F31_2, F31_3, F31_4, F31_5⟩ := cz6 BK297.out
      go_upto_if 35 with (fail)
      have H := HC27.out
      clear HC27
      clear Z31_0 Z31_1 Z31_2 Z31_3 Z31_4 Z31_5 F31_0 F31_1 F31_2 F31_3 F31_4 F31_5
      by_cases c32 : ((rd_T136 s0_0 s0_1).f0) = 1
      ·replace H := ipe c32 H
       obtain ⟨H, c32b0, c32b1⟩ := H
       clear c32
       (first | rw [c32b0] | (simp only [i64_w, i32_w]; rw [c32b0]) | skip)
       have H' := am H
       clear H
       have hnb33 := NB297_295.out
       have hnc33 := NB295_297.out
       have hnb34 := NB297_298.out
       have hnc34 := NB298_297.out
       have hnb35 := NB297_0.out
       have hnc35 := NB0_297.out
       obtain ⟨Z36_0, Z36_1, Z36_2, Z36_3, Z36_4, Z36_5, F36_0, F36_1, F36_2, F36_3, F36_4, F36_5⟩ := cz6 BK297.out
       have hnb37 := NB298_295.out
       have hnc37 := NB295_298.out
       have hnb38 := NB298_0.out
       have hnc38 := NB0_298.out
       obtain ⟨Z39_0, Z39_1, Z39_2, Z39_3, Z39_4, F39_0, F39_1, F39_2, F39_3, F39_4⟩ := cz5 BK298.out
       go_wp2
       go_meet
       case rel => exact ⟨_, (s0_1), (s0_2), (s0_3), (s0_4), (s0_5), (0), (0), (0), ((⟨#[]⟩ : ByteArray)), (0), (1), ((rd_T136 s0_0 s0_1).f3.f0), ((rd_T136 s0_0 s0_1).f3.f1), ((⟨#[]⟩ : ByteArray)), (0), H', ⟨oa HJ1⟩, ⟨bp BK295.out⟩, ⟨bp BK297.out⟩, ⟨bp BK298.out⟩, ⟨hz HI0.out⟩, ⟨kz HK.out⟩, ⟨bz HB.out⟩⟩
      replace H := ine c32 H
      obtain ⟨H, c32b0, c32b1⟩ := H
      (first | rw [c32b0] | (simp only [i64_w, i32_w]; rw [c32b0]) | skip)
      by_cases c40 : ((rd_T136 s0_0 s0_1).f0) = 2
      ·rw [if_pos c40] at H
       exact absurd H (by simp)
      replace H := ine c40 H
      obtain ⟨H, c40b0, c40b1⟩ := H
      by_cases c41 : ((rd_T136 s0_0 s0_1).f0) = 3
      ·rw [if_pos c41] at H
       exact absurd H (by simp)
      replace H := ine c41 H
      obtain ⟨H, c41b0, c41b1⟩ := H
      replace H := obe6 H
      obtain ⟨t299, t300, t301, t302, t303, t304, A42, H⟩ := H
      by_cases c43 : t299 = true
      ·subst c43
       replace H := ift H
       exact absurd H (by simp)
      replace c43 := Bool.eq_false_iff.mpr c43
      subst c43
      replace H := iff_ H
      replace H := obe6 H
      obtain ⟨t305, t306, t307, t308, t309, t310, A44, H⟩ := H
      by_cases c45 : t305 = true
      ·subst c45
       replace H := ift H
       exact absurd H (by simp)
      replace c45 := Bool.eq_false_iff.mpr c45
      subst c45
      replace H := iff_ H
      replace H := obe6 H
      obtain ⟨t311, t312, t313, t314, t315, t316, A46, H⟩ := H
      have HC47 := am H
      clear H
      have hnb48 := NB297_295.out
      have hnc48 := NB295_297.out
      have hnb49 := NB297_298.out
      have hnc49 := NB298_297.out
      have hnb50 := NB297_0.out
      have hnc50 := NB0_297.out
      obtain ⟨Z51_0, Z51_1, Z51_2, Z51_3, Z51_4, Z51_5, F51_0, F51_1, F51_2, F51_3, F51_4, F51_5⟩ := cz6 BK297.out
      go_upto_if 64 with (first | ((with_reducible refine gate_callee (f := 107) rfl ?_); refine gl_ (some 58) Tryz.func107 (by kernel_rfl) #[.pointer (some ⟨g, 0, none⟩), .string (⟨#[116, 114, 117, 101]⟩ : ByteArray)] rfl ?_; (with_reducible refine (expr_Parser_Is.calls kj1 g s0_0 s0_1 s0_2 s0_3 s0_4 s0_5 (⟨#[116, 114, 117, 101]⟩ : ByteArray) false t300 t301 t302 t303 t304 w0 _ ?side1 ?side2 A42.out).mono ?_); (case side1 => exact hz HI0.out); (case side2 => exact bz HB.out); rintro e w52 ⟨rfl, hi, hb, hk⟩; refine ⟨_, rfl, ?_⟩; replace BK295 := am (KeepBut.blk hk (g' := gb295) (o := .cells #[.int .i64 0, .int .i64 0, .int .i64 0, .string (⟨#[]⟩ : ByteArray), .int .i64 0] 25 (0, 0)) (bp BK295.out) NB295_0.out (by simp)); replace BK297 := am (KeepBut.blk hk (g' := gb297) (o := .cells #[.int .i64 ((rd_T136 s0_0 s0_1).f0), .int .i64 ((rd_T136 s0_0 s0_1).f1), .string ((rd_T136 s0_0 s0_1).f2), .int .i64 ((rd_T136 s0_0 s0_1).f3.f0), .int .i64 ((rd_T136 s0_0 s0_1).f3.f1), .int .i64 ((rd_T136 s0_0 s0_1).f4)] 136 (0, 0)) (bp BK297.out) NB297_0.out (by simp)); replace BK298 := am (KeepBut.blk hk (g' := gb298) (o := .cells #[.int .i64 0, .int .i64 0, .int .i64 0, .string (⟨#[]⟩ : ByteArray), .int .i64 0] 25 (0, 0)) (bp BK298.out) NB298_0.out (by simp)); replace HK := am (KeepBut.trans (kz HK.out) hk (.inl rfl)); replace HB := am (hb); replace HI0 := am (hi); clear hb hk hi) | ((with_reducible refine gate_callee (f := 107) rfl ?_); refine gl_ (some 62) Tryz.func107 (by kernel_rfl) #[.pointer (some ⟨g, 0, none⟩), .string (⟨#[102, 97, 108, 115, 101]⟩ : ByteArray)] rfl ?_; (with_reducible refine (expr_Parser_Is.calls kj1 g s0_0 t300 t301 t302 t303 t304 (⟨#[102, 97, 108, 115, 101]⟩ : ByteArray) false t306 t307 t308 t309 t310 w0 _ ?side1 ?side2 A44.out).mono ?_); (case side1 => exact hz HI0.out); (case side2 => exact bz HB.out); rintro e w53 ⟨rfl, hi, hb, hk⟩; refine ⟨_, rfl, ?_⟩; replace BK295 := am (KeepBut.blk hk (bk BK295.out) NB295_0.out (by simp)); replace BK297 := am (KeepBut.blk hk (bk BK297.out) NB297_0.out (by simp)); replace BK298 := am (KeepBut.blk hk (bk BK298.out) NB298_0.out (by simp)); replace HK := am (KeepBut.trans (kz HK.out) hk (.inl rfl)); replace HB := am (hb); replace HI0 := am (hi); clear hb hk hi) | ((with_reducible refine gate_callee (f := 107) rfl ?_); refine gl_ (some 66) Tryz.func107 (by kernel_rfl) #[.pointer (some ⟨g, 0, none⟩), .string (⟨#[110, 117, 108, 108]⟩ : ByteArray)] rfl ?_; (with_reducible refine (expr_Parser_Is.calls kj1 g s0_0 t306 t307 t308 t309 t310 (⟨#[110, 117, 108, 108]⟩ : ByteArray) t311 t312 t313 t314 t315 t316 w0 _ ?side1 ?side2 A46.out).mono ?_); (case side1 => exact hz HI0.out); (case side2 => exact bz HB.out); rintro e w54 ⟨rfl, hi, hb, hk⟩; refine ⟨_, rfl, ?_⟩; replace BK295 := am (KeepBut.blk hk (bk BK295.out) NB295_0.out (by simp)); replace BK297 := am (KeepBut.blk hk (bk BK297.out) NB297_0.out (by simp)); replace BK298 := am (KeepBut.blk hk (bk BK298.out) NB298_0.out (by simp)); replace HK := am (KeepBut.trans (kz HK.out) hk (.inl rfl)); replace HB := am (hb); replace HI0 := am (hi); clear hb hk hi))
      (try simp only [Act.put, List.setIfInBounds_toArray, List.set_cons_zero, List.set_cons_succ])
      have H := HC47.out
      clear HC47
      clear Z51_0 Z51_1 Z51_2 Z51_3 Z51_4 Z51_5 F51_0 F51_1 F51_2 F51_3 F51_4 F51_5
      by_cases c55 : t311 = true
      ·subst c55
       replace H := ift H
       have H' := am H
       clear H
       go_wp2
       go_meet
       case rel => exact ⟨_, (t312), (t313), (t314), (t315), (t316), (0), (0), (0), ((⟨#[]⟩ : ByteArray)), (0), (0), (0), (0), ((⟨#[]⟩ : ByteArray)), (0), H', ⟨oa HJ1⟩, ⟨bk BK295.out⟩, ⟨bk BK297.out⟩, ⟨bk BK298.out⟩, ⟨hz HI0.out⟩, ⟨kz HK.out⟩, ⟨bz HB.out⟩⟩
      replace c55 := Bool.eq_false_iff.mpr c55
      subst c55
      replace H := iff_ H
      simp only [Option.some.injEq, Prod.mk.injEq] at H
      obtain ⟨rfl, rfl, rfl, rfl, rfl, rfl, rfl, rfl, rfl, rfl, rfl⟩ := H
      have hnb56 := NB298_295.out
      have hnc56 := NB295_298.out
      have hnb57 := NB298_297.out
      have hnc57 := NB297_298.out
      have hnb58 := NB298_0.out
      have hnc58 := NB0_298.out
      obtain ⟨Z59_0, Z59_1, Z59_2, Z59_3, Z59_4, F59_0, F59_1, F59_2, F59_3, F59_4⟩ := cz5 BK298.out
      have hnb60 := NB295_297.out
      have hnc60 := NB297_295.out
      have hnb61 := NB295_0.out
      have hnc61 := NB0_295.out
      obtain ⟨Z62_0, Z62_1, Z62_2, Z62_3, Z62_4, F62_0, F62_1, F62_2, F62_3, F62_4⟩ := cz5 BK295.out
      go_wp2
      refine bodyPost_ret (results_ct rfl _ _ gb295 25 #[.int .i64 0, .int .i64 0, .int .i64 0, .string (⟨#[]⟩ : ByteArray), .int .i64 0] (0, 0) _ rfl (bp BK295.out) Tryz.underlying25 rfl (by kernel_rfl)) rfl ?_
      exact ⟨az, hz HI0.out, bz HB.out, kz HK.out⟩
     case rest =>
      clear HC12
      try clear c4; try clear c4b0; try clear c4b1; try clear c9; try clear c10; try clear c10b0; try clear c11; try clear c11b0; try clear Z14_0; try clear Z14_1; try clear Z14_2; try clear Z14_3; try clear Z14_4; try clear Z14_5; try clear Z26_0; try clear Z26_1; try clear Z26_2; try clear Z26_3; try clear Z26_4; try clear Z6_0; try clear Z6_1; try clear Z6_2; try clear Z6_3; try clear Z6_4; try clear Z6_5; try clear Z8_0; try clear Z8_1; try clear Z8_2; try clear Z8_3; try clear Z8_4; try clear Z8_5; try clear F14_1; try clear F14_2; try clear F14_3; try clear F14_4; try clear F14_5; try clear F26_0; try clear F26_1; try clear F26_2; try clear F26_3; try clear F26_4; try clear F6_1; try clear F6_2; try clear F6_3; try clear F6_4; try clear F6_5; try clear F8_1; try clear F8_2; try clear F8_3; try clear F8_4; try clear F8_5; try clear hx296_0; try clear hx296_1; try clear hx296_2; try clear hx296_3; try clear hx296_4; try clear hx296_5; try clear p296; try clear q296
      obtain ⟨kq, x1001_11, x1002_11, x1003_11, x1004_11, x1005_11, x296000_11, x296001_11, x296002_11, x296003_11, x296004_11, x299000_11, x299001_11, x299002_11, x299003_11, x299004_11, HA, HJ11, BK295, BK297, BK298, HI0, HK, HB⟩ := hcut
      cases kq with
      | zero => exact absurd HA.out (by simp [expr_Parser_Value.j1])
      | succ kj11 =>
       have H := HA.out
       clear HA
       simp only [expr_Parser_Value.j1] at H
       simp only [Option.some.injEq, Prod.mk.injEq] at H
       obtain ⟨rfl, rfl, rfl, rfl, rfl, rfl, rfl, rfl, rfl, rfl, rfl⟩ := H
       obtain ⟨ASz63_0, cSz63_0, HSz63_0, Z63_0, Z63_1, Z63_2, Z63_3, Z63_4, Z63_5, F63_1, F63_2, F63_3, F63_4, F63_5⟩ := open63 HI0.out
       have hnb64 := NB298_295.out
       have hnc64 := NB295_298.out
       have hnb65 := NB298_297.out
       have hnc65 := NB297_298.out
       have hnb66 := NB298_0.out
       have hnc66 := NB0_298.out
       obtain ⟨Z67_0, Z67_1, Z67_2, Z67_3, Z67_4, F67_0, F67_1, F67_2, F67_3, F67_4⟩ := cz5 BK298.out
       have hnb68 := NB295_297.out
       have hnc68 := NB297_295.out
       have hnb69 := NB295_0.out
       have hnc69 := NB0_295.out
       obtain ⟨Z70_0, Z70_1, Z70_2, Z70_3, Z70_4, F70_0, F70_1, F70_2, F70_3, F70_4⟩ := cz5 BK295.out
       go_wp2
       refine bodyPost_ret (results_ct rfl _ _ gb295 25 #[.int .i64 x299000_11, .int .i64 x299001_11, .int .i64 x299002_11, .string x299003_11, .int .i64 x299004_11] (0, 0) _ rfl (bp BK295.out) Tryz.underlying25 rfl (by kernel_rfl)) rfl ?_
       exact ⟨az, hz HI0.out, bz HB.out, kz HK.out⟩
    rw [if_neg c11] at H
    exact absurd H (by simp)
   rw [if_neg c10] at H
   exact absurd H (by simp)
end Go.Proofs.YtgkemhgihbfmmaaGreatDoor.PA
end
section
namespace Go.Proofs.YtgkemhgihbfmmaaGreatDoor.PA
open Go.RowKit Go.Proofs.YtgkemhgihbfmmaaGreatDoorW.PrintWords Go.Proofs.YtgkemhgihbfmmaaGreatDoorW.PrintLast Go.Proofs.YtgkemhgihbfmmaaGreatDoorW.PrintMore
attribute [local go_sem] max2_int min2_int max_two min_two max_three min_three max_four min_four isSome_set str_gtr
set_option linter.unusedVariables false
set_option linter.unusedSimpArgs false
end Go.Proofs.YtgkemhgihbfmmaaGreatDoor.PA
end
section
namespace Go.Proofs.YtgkemhgihbfmmaaGreatDoor.PA
open Go.RowKit Go.Proofs.YtgkemhgihbfmmaaGreatDoorW.PrintWords Go.Proofs.YtgkemhgihbfmmaaGreatDoorW.PrintLast Go.Proofs.YtgkemhgihbfmmaaGreatDoorW.PrintMore
def isFrom (k : Nat) (l0 : List ByteArray) (s0 : List S136) : Nat → Nat → Int → Int → Int → Int → Int → Option (Int × Int × Int × Int × Int × Int)
  | 0, _, x1, x2, x3, x4, x5 => some (-1, x1, x2, x3, x4, x5)
  | n + 1, i, x1, x2, x3, x4, x5 => (expr_Parser_Is.f k s0 x1 x2 x3 x4 x5 (rdOf ByteArray.empty l0 (i : Int))).bind fun r => if r.1 = true then some ((i : Int), r.2.1, r.2.2.1, r.2.2.2.1, r.2.2.2.2.1, r.2.2.2.2.2) else isFrom k l0 s0 n (i + 1) r.2.1 r.2.2.1 r.2.2.2.1 r.2.2.2.2.1 r.2.2.2.2.2
def standin_IndexIs.f (k : Nat) (l0 : List ByteArray) (s1_0 : List S136) (s1_1 s1_2 s1_3 s1_4 s1_5 : Int) : Option (Int × Int × Int × Int × Int × Int) := if l0.length < 4611686018427387904 then isFrom k l0 s1_0 l0.length 0 s1_1 s1_2 s1_3 s1_4 s1_5 else none
theorem isFrom_mono (l0 : List ByteArray) (s0 : List S136) (k : Nat) : ∀ (n i : Nat) (x1 x2 x3 x4 x5 : Int), LeO (isFrom k l0 s0 n i x1 x2 x3 x4 x5) (isFrom (k + 1) l0 s0 n i x1 x2 x3 x4 x5)
  | 0, _, _, _, _, _, _ => LeO.refl _
  | n + 1, i, x1, x2, x3, x4, x5 => by
    unfold isFrom
    refine LeO.bind (expr_Parser_Is.mono _ _ _ _ _ _ _ k) (fun r => ?_)
    refine LeO.ite (LeO.refl _) (isFrom_mono l0 s0 k n (i + 1) _ _ _ _ _)
theorem standin_IndexIs.mono : ∀ a0 a1 a2 a3 a4 a5 a6 k, LeO (standin_IndexIs.f k a0 a1 a2 a3 a4 a5 a6) (standin_IndexIs.f (k + 1) a0 a1 a2 a3 a4 a5 a6) := fun a0 a1 a2 a3 a4 a5 a6 k => LeO.ite (isFrom_mono a0 a1 k _ _ _ _ _ _ _) (LeO.refl _)
theorem state_no_string {w0 w : World} {g : Nat} {f0 : List S136} {f1 f2 f3 f4 f5 : Int} (h : IsS63 w0 w g f0 f1 f2 f3 f4 f5) {p : Addr} {x : ByteArray} (hc : w.cell? p = some (.string x)) : p.block ≠ g := by
  obtain ⟨A, c, hb, _, _⟩ := h
  intro e
  subst e
  unfold World.cell? at hc
  rw [hb] at hc
  simp only at hc
  split at hc
  · cases hc
  · obtain ⟨b, o, s⟩ := p
    match o, hc with
    | 0, hc => simp at hc
    | 1, hc => simp at hc
    | 2, hc => simp at hc
    | 3, hc => simp at hc
    | 4, hc => simp at hc
    | 5, hc => simp at hc
    | o + 6, hc => simp at hc
set_option maxHeartbeats 4000000 in
set_option maxRecDepth 100000 in
theorem standin_IndexIs.calls (k : Nat) (A0 : Option Addr) (c0 : Nat) (l0 : List ByteArray) (g : Nat) (s1_0 : List S136) (s1_1 s1_2 s1_3 s1_4 s1_5 r r1 r2 r3 r4 r5 : Int) (w0 w : World) (hI : IsS63 w0 w g s1_0 s1_1 s1_2 s1_3 s1_4 s1_5) (hB : Below w0.heap.size w0 w) (hr0 : Kd.C Kd.string w A0 l0.length l0) (hc0 : l0.length ≤ c0)
    (h : standin_IndexIs.f k l0 s1_0 s1_1 s1_2 s1_3 s1_4 s1_5 = some (r, r1, r2, r3, r4, r5)) :
    Calls Tryz.prog 110 #[.slice A0 l0.length c0, .func (.func 107) #[.pointer (some ⟨g, 0, none⟩)] #[]] w fun e w' => e = .returned (.int .i64 r) ∧ IsS63 w0 w' g s1_0 r1 r2 r3 r4 r5 ∧ Below w0.heap.size w0 w' ∧ KeepBut w w' g none := by
  have eg : ∀ args w, (callFunc 107 args).run Tryz.prog w = .ok (.enter 107 args) w := enters_of Tryz.func107 (by kernel_rfl) rfl
  have hbig : l0.length < 4611686018427387904 := by
    unfold standin_IndexIs.f at h
    split at h
    · assumption
    · cases h
  unfold standin_IndexIs.f at h
  rw [if_pos hbig] at h
  have H0 : Aside0 (isFrom k l0 s1_0 l0.length 0 s1_1 s1_2 s1_3 s1_4 s1_5 = some (r, r1, r2, r3, r4, r5)) := ⟨h⟩
  have HI := Aside0.mk hI
  have HB := Aside0.mk hB
  have HR := Aside0.mk hr0
  clear h hI hB hr0
  go_enter Tryz.func110, Tryz.ntmps110
  go_wp2
  go_loopg [5, 8] l0.length (fun gg _ s8 wr => ∃ (kk : Nat) (x1 x2 x3 x4 x5 : Int), kk + gg = l0.length ∧ s8 = .int .i64 kk ∧ Aside0 (isFrom k l0 s1_0 gg kk x1 x2 x3 x4 x5 = some (r, r1, r2, r3, r4, r5)) ∧ Aside0 (IsS63 w0 wr g s1_0 x1 x2 x3 x4 x5) ∧ Aside0 (Below w0.heap.size w0 wr) ∧ Aside0 (KeepBut w wr g none))
  case atStart => exact ⟨0, s1_1, s1_2, s1_3, s1_4, s1_5, Nat.zero_add _, rfl, H0, HI, HB, ⟨KeepBut.refl w g none⟩⟩
  case round =>
    obtain ⟨kk, x1, x2, x3, x4, x5, hkg, rfl, HA, HI1, HB1, HK1⟩ := hrel
    cases gk with
    | zero =>
      have d1 : decide ((kk : Int) < (l0.length : Int)) = false := decide_eq_false (by omega)
      have hA := HA.out
      simp only [isFrom, Option.some.injEq, Prod.mk.injEq] at hA
      obtain ⟨rfl, rfl, rfl, rfl, rfl, rfl⟩ := hA
      go_wp2
      go_ret
      exact ⟨rfl, HI1.out, HB1.out, HK1.out⟩
    | succ n =>
      have d1 : decide ((kk : Int) < (l0.length : Int)) = true := decide_eq_true (by omega)
      have p1 : (0 : Int) ≤ (kk : Int) := by omega
      have q1 : (kk : Int) < (l0.length : Int) := by omega
      obtain ⟨ad, e1, hx⟩ := Kd.at_string HR.out (kk : Int) p1 q1
      cases e1
      have hne := state_no_string HI.out hx
      replace hx := keep_cell HK1.out hx hne
      have hx2 : wr.cell? (ad.add kk) = some (.string (rdOf ByteArray.empty l0 (kk : Int))) := hx
      have i1 := eq_true p1
      have i2 := eq_true q1
      have hA := HA.out
      simp only [isFrom] at hA
      replace hA := Option.bind_eq_some_iff.mp hA
      obtain ⟨⟨b, y1, y2, y3, y4, y5⟩, hIs, hA⟩ := hA
      have cI := expr_Parser_Is.calls k g s1_0 x1 x2 x3 x4 x5 (rdOf ByteArray.empty l0 (kk : Int)) b y1 y2 y3 y4 y5 w0 wr HI1.out HB1.out hIs
      have HA2 := Aside0.mk hA
      clear hA hIs hne
      cases b with
      | true =>
        have hr := HA2.out
        simp only [if_true, Option.some.injEq, Prod.mk.injEq] at hr
        obtain ⟨rfl, rfl, rfl, rfl, rfl, rfl⟩ := hr
        go_wp2_with (go_at_fn 107; refine cI.mono ?_; rintro e w' ⟨rfl, hi, hb, hk⟩)
        go_ret
        exact ⟨rfl, hi, hb, KeepBut.trans HK1.out hk (.inl rfl)⟩
      | false =>
        have hr := HA2.out
        simp only [Bool.false_eq_true, if_false] at hr
        have HA3 := Aside0.mk hr
        clear hr
        go_wp2_with (go_at_fn 107; refine cI.mono ?_; rintro e w' ⟨rfl, hi, hb, hk⟩)
        go_roundg n
        case measure => omega
        case rel => exact ⟨kk + 1, y1, y2, y3, y4, y5, by omega, by go_num, HA3, ⟨hi⟩, ⟨hb⟩, ⟨KeepBut.trans HK1.out hk (.inl rfl)⟩⟩
end Go.Proofs.YtgkemhgihbfmmaaGreatDoor.PA
end
section
namespace Go.Proofs.YtgkemhgihbfmmaaGreatDoor.PA
open Go.RowKit Go.Proofs.YtgkemhgihbfmmaaGreatDoorW.PrintWords Go.Proofs.YtgkemhgihbfmmaaGreatDoorW.PrintLast Go.Proofs.YtgkemhgihbfmmaaGreatDoorW.PrintMore
attribute [local go_sem] max2_int min2_int max_two min_two max_three min_three max_four min_four isSome_set str_gtr
set_option linter.unusedVariables false
set_option linter.unusedSimpArgs false
end Go.Proofs.YtgkemhgihbfmmaaGreatDoor.PA
end
section
namespace Go.Proofs.YtgkemhgihbfmmaaGreatDoor.PA
open Go.RowKit Go.Proofs.YtgkemhgihbfmmaaGreatDoorW.PrintWords Go.Proofs.YtgkemhgihbfmmaaGreatDoorW.PrintLast Go.Proofs.YtgkemhgihbfmmaaGreatDoorW.PrintMore
attribute [local go_sem] max2_int min2_int max_two min_two max_three min_three max_four min_four isSome_set str_gtr
set_option linter.unusedVariables false
set_option linter.unusedSimpArgs false
end Go.Proofs.YtgkemhgihbfmmaaGreatDoor.PA
end
section
namespace Go.Proofs.YtgkemhgihbfmmaaGreatDoor.PA
open Go.RowKit Go.Proofs.YtgkemhgihbfmmaaGreatDoorW.PrintWords Go.Proofs.YtgkemhgihbfmmaaGreatDoorW.PrintLast Go.Proofs.YtgkemhgihbfmmaaGreatDoorW.PrintMore
attribute [local go_sem] max2_int min2_int max_two min_two max_three min_three max_four min_four isSome_set str_gtr
set_option linter.unusedVariables false
set_option linter.unusedSimpArgs false
mutual
def expr_Parser_prefix.j0 : Nat → Bool → List (S136) → Int → Int → Int → Int → Int → Option (Int × Int × Int × Int × ByteArray × Int × ByteArray × (List (S31)) × Int × Int × Int × Int × Int)
 | 0, _, _, _, _, _, _, _ => none
 | k + 1, x99, x1000, x1001, x1002, x1003, x1004, x1005 => if x99 = true then ((expr_Parser_make.f x1000 x1001 x1002 x1003 x1004 x1005 2 ([] : List (S31))).bind fun bt739 => (if 0 ≤ bt739.2.2.2.2.2.2.2.2.1 then (if bt739.2.2.2.2.2.2.2.2.1 < (x1000.length : Int) then (some (bt739.1, bt739.2.1, bt739.2.2.1, bt739.2.2.2.1, bt739.2.2.2.2.1, bt739.2.2.2.2.2.1, (rd_T136 x1000 bt739.2.2.2.2.2.2.2.2.1).f2, bt739.2.2.2.2.2.2.2.1, wrap64 (bt739.2.2.2.2.2.2.2.2.1 + 1), bt739.2.2.2.2.2.2.2.2.2.1, bt739.2.2.2.2.2.2.2.2.2.2.1, bt739.2.2.2.2.2.2.2.2.2.2.2.1, bt739.2.2.2.2.2.2.2.2.2.2.2.2)) else (none)) else (none))) else (none)
def expr_Parser_prefix.f : Nat → List (S136) → Int → Int → Int → Int → Int → Int → Option (Int × Int × Int × Int × ByteArray × Int × ByteArray × (List (S31)) × Int × Int × Int × Int × Int)
 | 0, _, _, _, _, _, _, _ => none
 | k + 1, s0_0, s0_1, s0_2, s0_3, s0_4, s0_5, a1 => if s0_4 = 0 then ((expr_Parser_Take.f k s0_0 s0_1 s0_2 s0_3 s0_4 s0_5 (⟨#[45]⟩ : ByteArray)).bind fun bt625 => (if bt625.1 = true then (none) else ((expr_Parser_Take.f k s0_0 bt625.2.1 bt625.2.2.1 bt625.2.2.2.1 bt625.2.2.2.2.1 bt625.2.2.2.2.2 (⟨#[40]⟩ : ByteArray)).bind fun bt631 => (if bt631.1 = true then ((expr_Parser_Expr.f k s0_0 bt631.2.1 bt631.2.2.1 bt631.2.2.2.1 bt631.2.2.2.2.1 bt631.2.2.2.2.2 (wrap64 (a1 + 1))).bind fun bt637 => ((expr_Parser_Need.f k s0_0 bt637.2.2.2.2.2.2.2.2.1 bt637.2.2.2.2.2.2.2.2.2.1 bt637.2.2.2.2.2.2.2.2.2.2.1 bt637.2.2.2.2.2.2.2.2.2.2.2.1 bt637.2.2.2.2.2.2.2.2.2.2.2.2 (⟨#[41]⟩ : ByteArray)).bind fun bt653 => (some (bt637.1, bt637.2.1, bt637.2.2.1, bt637.2.2.2.1, bt637.2.2.2.2.1, bt637.2.2.2.2.2.1, bt637.2.2.2.2.2.2.1, bt637.2.2.2.2.2.2.2.1, bt653.1, bt653.2.1, bt653.2.2.1, bt653.2.2.2.1, bt653.2.2.2.2)))) else ((expr_Parser_Take.f k s0_0 bt631.2.1 bt631.2.2.1 bt631.2.2.2.1 bt631.2.2.2.2.1 bt631.2.2.2.2.2 (⟨#[110, 111, 116]⟩ : ByteArray)).bind fun bt658 => (if bt658.1 = true then ((expr_Parser_Need.f k s0_0 bt658.2.1 bt658.2.2.1 bt658.2.2.2.1 bt658.2.2.2.2.1 bt658.2.2.2.2.2 (⟨#[40]⟩ : ByteArray)).bind fun bt664 => ((expr_Parser_Expr.f k s0_0 bt664.1 bt664.2.1 bt664.2.2.1 bt664.2.2.2.1 bt664.2.2.2.2 (wrap64 (a1 + 1))).bind fun bt669 => ((expr_Parser_Need.f k s0_0 bt669.2.2.2.2.2.2.2.2.1 bt669.2.2.2.2.2.2.2.2.2.1 bt669.2.2.2.2.2.2.2.2.2.2.1 bt669.2.2.2.2.2.2.2.2.2.2.2.1 bt669.2.2.2.2.2.2.2.2.2.2.2.2 (⟨#[41]⟩ : ByteArray)).bind fun bt685 => ((expr_Parser_make.f s0_0 bt685.1 bt685.2.1 bt685.2.2.1 bt685.2.2.2.1 bt685.2.2.2.2 16 (([(⟨bt669.1, (⟨bt669.2.1, (⟨bt669.2.2.1, bt669.2.2.2.1⟩ : S23), bt669.2.2.2.2.1, bt669.2.2.2.2.2.1⟩ : S25), bt669.2.2.2.2.2.2.1, bt669.2.2.2.2.2.2.2.1⟩ : S31)] : List (S31)))).bind fun bt693 => (some (bt693.1, bt693.2.1, bt693.2.2.1, bt693.2.2.2.1, bt693.2.2.2.2.1, bt693.2.2.2.2.2.1, bt693.2.2.2.2.2.2.1, bt693.2.2.2.2.2.2.2.1, bt693.2.2.2.2.2.2.2.2.1, bt693.2.2.2.2.2.2.2.2.2.1, bt693.2.2.2.2.2.2.2.2.2.2.1, bt693.2.2.2.2.2.2.2.2.2.2.2.1, bt693.2.2.2.2.2.2.2.2.2.2.2.2)))))) else ((expr_Parser_Value.f k s0_0 bt658.2.1 bt658.2.2.1 bt658.2.2.2.1 bt658.2.2.2.2.1 bt658.2.2.2.2.2).bind fun bt708 => (if bt708.2.2.2.2.2.1 = true then ((expr_Parser_make.f s0_0 bt708.2.2.2.2.2.2.1 bt708.2.2.2.2.2.2.2.1 bt708.2.2.2.2.2.2.2.2.1 bt708.2.2.2.2.2.2.2.2.2.1 bt708.2.2.2.2.2.2.2.2.2.2 1 ([] : List (S31))).bind fun bt720 => (some (bt720.1, bt708.1, bt708.2.1, bt708.2.2.1, bt708.2.2.2.1, bt708.2.2.2.2.1, bt720.2.2.2.2.2.2.1, bt720.2.2.2.2.2.2.2.1, bt720.2.2.2.2.2.2.2.2.1, bt720.2.2.2.2.2.2.2.2.2.1, bt720.2.2.2.2.2.2.2.2.2.2.1, bt720.2.2.2.2.2.2.2.2.2.2.2.1, bt720.2.2.2.2.2.2.2.2.2.2.2.2))) else (if bt708.2.2.2.2.2.2.1 < (s0_0.length : Int) then (if 0 ≤ bt708.2.2.2.2.2.2.1 then (if ((rd_T136 s0_0 bt708.2.2.2.2.2.2.1).f0) = 4 then ((lex_Word.f k ((rd_T136 s0_0 bt708.2.2.2.2.2.2.1).f2)).bind fun t738 => (expr_Parser_prefix.j0 k t738 s0_0 bt708.2.2.2.2.2.2.1 bt708.2.2.2.2.2.2.2.1 bt708.2.2.2.2.2.2.2.2.1 bt708.2.2.2.2.2.2.2.2.2.1 bt708.2.2.2.2.2.2.2.2.2.2)) else (expr_Parser_prefix.j0 k false s0_0 bt708.2.2.2.2.2.2.1 bt708.2.2.2.2.2.2.2.1 bt708.2.2.2.2.2.2.2.2.1 bt708.2.2.2.2.2.2.2.2.2.1 bt708.2.2.2.2.2.2.2.2.2.2)) else (none)) else (expr_Parser_prefix.j0 k false s0_0 bt708.2.2.2.2.2.2.1 bt708.2.2.2.2.2.2.2.1 bt708.2.2.2.2.2.2.2.2.1 bt708.2.2.2.2.2.2.2.2.2.1 bt708.2.2.2.2.2.2.2.2.2.2)))))))))) else (none)
def expr_Parser_chain.l0 : Nat → Int → Int → List (S143) → List (S136) → Int → Int → Int → Int → Int → Int → Int → Int → Int → ByteArray → Int → ByteArray → List (S31) → Option (Int × Int × Int × Int × ByteArray × Int × ByteArray × (List (S31)) × Int × Int × Int × Int × Int)
 | 0, _, _, _, _, _, _, _, _, _, _, _, _, _, _, _, _, _ => none
 | k + 1, x1, x2, x7, x1000, x1001, x1002, x1003, x1004, x1005, x791000, x791001, x791002, x791003, x791004, x791005, x791006, x791007 => if x1004 = 0 then (if 0 ≤ x2 then (if x2 < (x7.length : Int) then ((standin_IndexIs.f k ((rd_T143 x7 x2).f0) x1000 x1001 x1002 x1003 x1004 x1005).bind fun bt792 => (if bt792.1 < 0 then (some (x791000, x791001, x791002, x791003, x791004, x791005, x791006, x791007, bt792.2.1, bt792.2.2.1, bt792.2.2.2.1, bt792.2.2.2.2.1, bt792.2.2.2.2.2)) else (if 0 ≤ bt792.1 then (if bt792.1 < (((rd_T143 x7 x2).f1).length : Int) then ((expr_Parser_chain.f k x1000 (wrap64 (bt792.2.1 + 1)) bt792.2.2.1 bt792.2.2.2.1 bt792.2.2.2.2.1 bt792.2.2.2.2.2 x1 (wrap64 (x2 + 1))).bind fun bt800 => ((expr_Parser_make.f x1000 bt800.2.2.2.2.2.2.2.2.1 bt800.2.2.2.2.2.2.2.2.2.1 bt800.2.2.2.2.2.2.2.2.2.2.1 bt800.2.2.2.2.2.2.2.2.2.2.2.1 bt800.2.2.2.2.2.2.2.2.2.2.2.2 (rd ((rd_T143 x7 x2).f1) bt792.1) (([(⟨x791000, (⟨x791001, (⟨x791002, x791003⟩ : S23), x791004, x791005⟩ : S25), x791006, x791007⟩ : S31), (⟨bt800.1, (⟨bt800.2.1, (⟨bt800.2.2.1, bt800.2.2.2.1⟩ : S23), bt800.2.2.2.2.1, bt800.2.2.2.2.2.1⟩ : S25), bt800.2.2.2.2.2.2.1, bt800.2.2.2.2.2.2.2.1⟩ : S31)] : List (S31)))).bind fun bt818 => (if (rd_T143 x7 x2).f2 = true then (some (bt818.1, bt818.2.1, bt818.2.2.1, bt818.2.2.2.1, bt818.2.2.2.2.1, bt818.2.2.2.2.2.1, bt818.2.2.2.2.2.2.1, bt818.2.2.2.2.2.2.2.1, bt818.2.2.2.2.2.2.2.2.1, bt818.2.2.2.2.2.2.2.2.2.1, bt818.2.2.2.2.2.2.2.2.2.2.1, bt818.2.2.2.2.2.2.2.2.2.2.2.1, bt818.2.2.2.2.2.2.2.2.2.2.2.2)) else (expr_Parser_chain.l0 k x1 x2 x7 x1000 bt818.2.2.2.2.2.2.2.2.1 bt818.2.2.2.2.2.2.2.2.2.1 bt818.2.2.2.2.2.2.2.2.2.2.1 bt818.2.2.2.2.2.2.2.2.2.2.2.1 bt818.2.2.2.2.2.2.2.2.2.2.2.2 bt818.1 bt818.2.1 bt818.2.2.1 bt818.2.2.2.1 bt818.2.2.2.2.1 bt818.2.2.2.2.2.1 bt818.2.2.2.2.2.2.1 bt818.2.2.2.2.2.2.2.1)))) else (none)) else (none)))) else (none)) else (none)) else (none)
def expr_Parser_chain.f : Nat → List (S136) → Int → Int → Int → Int → Int → Int → Int → Option (Int × Int × Int × Int × ByteArray × Int × ByteArray × (List (S31)) × Int × Int × Int × Int × Int)
 | 0, _, _, _, _, _, _, _, _ => none
 | k + 1, s0_0, s0_1, s0_2, s0_3, s0_4, s0_5, a1, a2 => (expr_levels.f).bind fun t757 => (if a2 > 4 then ((expr_Parser_prefix.f k s0_0 s0_1 s0_2 s0_3 s0_4 s0_5 a1).bind fun bt760 => (some (bt760.1, bt760.2.1, bt760.2.2.1, bt760.2.2.2.1, bt760.2.2.2.2.1, bt760.2.2.2.2.2.1, bt760.2.2.2.2.2.2.1, bt760.2.2.2.2.2.2.2.1, bt760.2.2.2.2.2.2.2.2.1, bt760.2.2.2.2.2.2.2.2.2.1, bt760.2.2.2.2.2.2.2.2.2.2.1, bt760.2.2.2.2.2.2.2.2.2.2.2.1, bt760.2.2.2.2.2.2.2.2.2.2.2.2))) else ((expr_Parser_chain.f k s0_0 s0_1 s0_2 s0_3 s0_4 s0_5 a1 (wrap64 (a2 + 1))).bind fun bt775 => (expr_Parser_chain.l0 k a1 a2 t757 s0_0 bt775.2.2.2.2.2.2.2.2.1 bt775.2.2.2.2.2.2.2.2.2.1 bt775.2.2.2.2.2.2.2.2.2.2.1 bt775.2.2.2.2.2.2.2.2.2.2.2.1 bt775.2.2.2.2.2.2.2.2.2.2.2.2 bt775.1 bt775.2.1 bt775.2.2.1 bt775.2.2.2.1 bt775.2.2.2.2.1 bt775.2.2.2.2.2.1 bt775.2.2.2.2.2.2.1 bt775.2.2.2.2.2.2.2.1)))
def expr_Parser_Expr.j0 : Nat → Int → Bool → List (S136) → Int → Int → Int → Int → Int → Option (Int × Int × Int × Int × ByteArray × Int × ByteArray × (List (S31)) × Int × Int × Int × Int × Int)
 | 0, _, _, _, _, _, _, _, _ => none
 | k + 1, x1, x20, x1000, x1001, x1002, x1003, x1004, x1005 => if x20 = true then ((expr_Parser_chain.f k x1000 x1001 x1002 x1003 x1004 x1005 x1 0).bind fun bt841 => (some (bt841.1, bt841.2.1, bt841.2.2.1, bt841.2.2.2.1, bt841.2.2.2.2.1, bt841.2.2.2.2.2.1, bt841.2.2.2.2.2.2.1, bt841.2.2.2.2.2.2.2.1, bt841.2.2.2.2.2.2.2.2.1, bt841.2.2.2.2.2.2.2.2.2.1, bt841.2.2.2.2.2.2.2.2.2.2.1, bt841.2.2.2.2.2.2.2.2.2.2.2.1, bt841.2.2.2.2.2.2.2.2.2.2.2.2))) else ((expr_Parser_Expr.f k x1000 x1001 x1002 x1003 x1004 x1005 x1).bind fun bt856 => ((expr_Parser_Need.f k x1000 bt856.2.2.2.2.2.2.2.2.1 bt856.2.2.2.2.2.2.2.2.2.1 bt856.2.2.2.2.2.2.2.2.2.2.1 bt856.2.2.2.2.2.2.2.2.2.2.2.1 bt856.2.2.2.2.2.2.2.2.2.2.2.2 (⟨#[116, 104, 101, 110]⟩ : ByteArray)).bind fun bt872 => ((expr_Parser_Expr.f k x1000 bt872.1 bt872.2.1 bt872.2.2.1 bt872.2.2.2.1 bt872.2.2.2.2 x1).bind fun bt877 => ((expr_Parser_Need.f k x1000 bt877.2.2.2.2.2.2.2.2.1 bt877.2.2.2.2.2.2.2.2.2.1 bt877.2.2.2.2.2.2.2.2.2.2.1 bt877.2.2.2.2.2.2.2.2.2.2.2.1 bt877.2.2.2.2.2.2.2.2.2.2.2.2 (⟨#[101, 108, 115, 101]⟩ : ByteArray)).bind fun bt893 => ((expr_Parser_Expr.f k x1000 bt893.1 bt893.2.1 bt893.2.2.1 bt893.2.2.2.1 bt893.2.2.2.2 x1).bind fun bt898 => ((expr_Parser_make.f x1000 bt898.2.2.2.2.2.2.2.2.1 bt898.2.2.2.2.2.2.2.2.2.1 bt898.2.2.2.2.2.2.2.2.2.2.1 bt898.2.2.2.2.2.2.2.2.2.2.2.1 bt898.2.2.2.2.2.2.2.2.2.2.2.2 17 (([(⟨bt856.1, (⟨bt856.2.1, (⟨bt856.2.2.1, bt856.2.2.2.1⟩ : S23), bt856.2.2.2.2.1, bt856.2.2.2.2.2.1⟩ : S25), bt856.2.2.2.2.2.2.1, bt856.2.2.2.2.2.2.2.1⟩ : S31), (⟨bt877.1, (⟨bt877.2.1, (⟨bt877.2.2.1, bt877.2.2.2.1⟩ : S23), bt877.2.2.2.2.1, bt877.2.2.2.2.2.1⟩ : S25), bt877.2.2.2.2.2.2.1, bt877.2.2.2.2.2.2.2.1⟩ : S31), (⟨bt898.1, (⟨bt898.2.1, (⟨bt898.2.2.1, bt898.2.2.2.1⟩ : S23), bt898.2.2.2.2.1, bt898.2.2.2.2.2.1⟩ : S25), bt898.2.2.2.2.2.2.1, bt898.2.2.2.2.2.2.2.1⟩ : S31)] : List (S31)))).bind fun bt916 => (some (bt916.1, bt916.2.1, bt916.2.2.1, bt916.2.2.2.1, bt916.2.2.2.2.1, bt916.2.2.2.2.2.1, bt916.2.2.2.2.2.2.1, bt916.2.2.2.2.2.2.2.1, bt916.2.2.2.2.2.2.2.2.1, bt916.2.2.2.2.2.2.2.2.2.1, bt916.2.2.2.2.2.2.2.2.2.2.1, bt916.2.2.2.2.2.2.2.2.2.2.2.1, bt916.2.2.2.2.2.2.2.2.2.2.2.2))))))))
def expr_Parser_Expr.f : Nat → List (S136) → Int → Int → Int → Int → Int → Int → Option (Int × Int × Int × Int × ByteArray × Int × ByteArray × (List (S31)) × Int × Int × Int × Int × Int)
 | 0, _, _, _, _, _, _, _ => none
 | k + 1, s0_0, s0_1, s0_2, s0_3, s0_4, s0_5, a1 => if a1 > 64 then (none) else (if s0_4 = 0 then ((expr_Parser_Take.f k s0_0 s0_1 s0_2 s0_3 s0_4 s0_5 (⟨#[105, 102]⟩ : ByteArray)).bind fun bt835 => (expr_Parser_Expr.j0 k a1 (!bt835.1) s0_0 bt835.2.1 bt835.2.2.1 bt835.2.2.2.1 bt835.2.2.2.2.1 bt835.2.2.2.2.2)) else (expr_Parser_Expr.j0 k a1 true s0_0 s0_1 s0_2 s0_3 s0_4 s0_5))
end
theorem expr_Parser_Expr.mono_g : ∀ k, (∀ y0 y1 y2 y3 y4 y5 y6, LeO (expr_Parser_prefix.f k y0 y1 y2 y3 y4 y5 y6) (expr_Parser_prefix.f (k + 1) y0 y1 y2 y3 y4 y5 y6)) ∧ (∀ y0 y1 y2 y3 y4 y5 y6, LeO (expr_Parser_prefix.j0 k y0 y1 y2 y3 y4 y5 y6) (expr_Parser_prefix.j0 (k + 1) y0 y1 y2 y3 y4 y5 y6)) ∧ (∀ y0 y1 y2 y3 y4 y5 y6 y7, LeO (expr_Parser_chain.f k y0 y1 y2 y3 y4 y5 y6 y7) (expr_Parser_chain.f (k + 1) y0 y1 y2 y3 y4 y5 y6 y7)) ∧ (∀ y0 y1 y2 y3 y4 y5 y6 y7 y8 y9 y10 y11 y12 y13 y14 y15 y16, LeO (expr_Parser_chain.l0 k y0 y1 y2 y3 y4 y5 y6 y7 y8 y9 y10 y11 y12 y13 y14 y15 y16) (expr_Parser_chain.l0 (k + 1) y0 y1 y2 y3 y4 y5 y6 y7 y8 y9 y10 y11 y12 y13 y14 y15 y16)) ∧ (∀ y0 y1 y2 y3 y4 y5 y6, LeO (expr_Parser_Expr.f k y0 y1 y2 y3 y4 y5 y6) (expr_Parser_Expr.f (k + 1) y0 y1 y2 y3 y4 y5 y6)) ∧ (∀ y0 y1 y2 y3 y4 y5 y6 y7, LeO (expr_Parser_Expr.j0 k y0 y1 y2 y3 y4 y5 y6 y7) (expr_Parser_Expr.j0 (k + 1) y0 y1 y2 y3 y4 y5 y6 y7))
 | 0 => ⟨fun _ _ _ _ _ _ _ r h => by simp [expr_Parser_prefix.f] at h, fun _ _ _ _ _ _ _ r h => by simp [expr_Parser_prefix.j0] at h, fun _ _ _ _ _ _ _ _ r h => by simp [expr_Parser_chain.f] at h, fun _ _ _ _ _ _ _ _ _ _ _ _ _ _ _ _ _ r h => by simp [expr_Parser_chain.l0] at h, fun _ _ _ _ _ _ _ r h => by simp [expr_Parser_Expr.f] at h, fun _ _ _ _ _ _ _ _ r h => by simp [expr_Parser_Expr.j0] at h⟩
 | k + 1 => by
  obtain ⟨ih0, ih1, ih2, ih3, ih4, ih5⟩ := expr_Parser_Expr.mono_g k
  refine ⟨?_, ?_, ?_, ?_, ?_, ?_⟩
  ·intro y0 y1 y2 y3 y4 y5 y6
   unfold expr_Parser_prefix.f
   have q0 := @expr_Parser_Need.mono; have q1 := @expr_Parser_Take.mono; have q2 := @expr_Parser_Value.mono; have q3 := @lex_Word.mono; have q4 := @standin_IndexIs.mono; exact lmo
  ·intro y0 y1 y2 y3 y4 y5 y6
   unfold expr_Parser_prefix.j0
   have q0 := @expr_Parser_Need.mono; have q1 := @expr_Parser_Take.mono; have q2 := @expr_Parser_Value.mono; have q3 := @lex_Word.mono; have q4 := @standin_IndexIs.mono; exact lmo
  ·intro y0 y1 y2 y3 y4 y5 y6 y7
   unfold expr_Parser_chain.f
   have q0 := @expr_Parser_Need.mono; have q1 := @expr_Parser_Take.mono; have q2 := @expr_Parser_Value.mono; have q3 := @lex_Word.mono; have q4 := @standin_IndexIs.mono; exact lmo
  ·intro y0 y1 y2 y3 y4 y5 y6 y7 y8 y9 y10 y11 y12 y13 y14 y15 y16
   unfold expr_Parser_chain.l0
   have q0 := @expr_Parser_Need.mono; have q1 := @expr_Parser_Take.mono; have q2 := @expr_Parser_Value.mono; have q3 := @lex_Word.mono; have q4 := @standin_IndexIs.mono; exact lmo
  ·intro y0 y1 y2 y3 y4 y5 y6
   unfold expr_Parser_Expr.f
   have q0 := @expr_Parser_Need.mono; have q1 := @expr_Parser_Take.mono; have q2 := @expr_Parser_Value.mono; have q3 := @lex_Word.mono; have q4 := @standin_IndexIs.mono; exact lmo
  intro y0 y1 y2 y3 y4 y5 y6 y7
  unfold expr_Parser_Expr.j0
  have q0 := @expr_Parser_Need.mono; have q1 := @expr_Parser_Take.mono; have q2 := @expr_Parser_Value.mono; have q3 := @lex_Word.mono; have q4 := @standin_IndexIs.mono; exact lmo
theorem expr_Parser_Expr.mono : ∀ a0 a1 a2 a3 a4 a5 a6 k, LeO (expr_Parser_Expr.f k a0 a1 a2 a3 a4 a5 a6) (expr_Parser_Expr.f (k + 1) a0 a1 a2 a3 a4 a5 a6) := by
 intro a0 a1 a2 a3 a4 a5 a6 k
 obtain ⟨ih0, ih1, ih2, ih3, ih4, ih5⟩ := expr_Parser_Expr.mono_g k
 exact ih4 a0 a1 a2 a3 a4 a5 a6
end Go.Proofs.YtgkemhgihbfmmaaGreatDoor.PA
end
section
namespace Go.Proofs.YtgkemhgihbfmmaaGreatDoor.PA
open Go.RowKit Go.Proofs.YtgkemhgihbfmmaaGreatDoorW.PrintWords Go.Proofs.YtgkemhgihbfmmaaGreatDoorW.PrintLast Go.Proofs.YtgkemhgihbfmmaaGreatDoorW.PrintMore
attribute [local go_sem] max2_int min2_int max_two min_two max_three min_three max_four min_four isSome_set str_gtr
set_option linter.unusedVariables false
set_option linter.unusedSimpArgs false
def expr_Parser_prefix.T19 : Bool × List (List Nat × List Nat) := (true, [([], []), ([0], [0]), ([1], [1]), ([2], [2]), ([], []), ([4], [4]), ([5], [5]), ([6], [6]), ([7], [7]), ([3, 8], [3, 8]), ([9], [9]), ([10], [10]), ([11, 10], [10, 11]), ([12, 10], [10, 12]), ([13, 10], [10, 13]), ([10], [10]), ([15, 10], [10, 15]), ([16, 10], [10, 16]), ([17, 10], [10, 17]), ([14, 18, 10], [10, 14, 18]), ([19, 10], [10, 19]), ([20, 10], [10, 20]), ([21, 10], [10, 21]), ([10, 22], [10, 22]), ([23, 10], [23]), ([24], [24]), ([25, 24], [24, 25]), ([26, 24], [24, 26]), ([27, 24], [24, 27]), ([24], [24]), ([29, 24], [24, 29]), ([30, 24], [24, 30]), ([31, 24], [24, 31]), ([28, 32, 24], [24, 28, 32]), ([33, 24], [24, 33]), ([34, 24], [24, 34]), ([35, 24, 24], [24, 35]), ([24, 36], [24, 36])])
def expr_Parser_prefix.B19 : List Nat := [0, 1, 3, 7, 0, 16, 48, 112, 240, 511, 1023, 2047, 4095, 8191, 16383, 2047, 34815, 100351, 231423, 524287, 1048575, 2097151, 4194303, 8388607, 16777215, 33554431, 67108863, 134217727, 268435455, 33554431, 570425343, 1644167167, 3791650815, 8589934591, 17179869183, 34359738367, 68719476735, 137438953471]
theorem expr_Parser_prefix.tab19 : rtab .any (opsOf Tryz.f109 19) = expr_Parser_prefix.T19 := by kernel_rfl
theorem expr_Parser_prefix.bits19 : waitsOk expr_Parser_prefix.T19.2 expr_Parser_prefix.B19 = true := by kernel_rfl
def expr_Parser_prefix.T21 : Bool × List (List Nat × List Nat) := (true, [([], []), ([0], [0]), ([1], [1]), ([2], [2]), ([], []), ([4], [4]), ([5], [5]), ([6], [6]), ([3, 7], [3, 7]), ([8], [8]), ([9], [9]), ([0, 1, 2, 3, 4, 5, 6, 7, 8, 9, 10], []), ([11, 10, 0, 1, 2, 3, 4, 5, 6, 7, 8, 9, 10], [10, 11])])
def expr_Parser_prefix.B21 : List Nat := [0, 1, 3, 7, 0, 16, 48, 112, 255, 511, 1023, 2047, 4095]
theorem expr_Parser_prefix.tab21 : rtab .any (opsOf Tryz.f109 21) = expr_Parser_prefix.T21 := by kernel_rfl
theorem expr_Parser_prefix.bits21 : waitsOk expr_Parser_prefix.T21.2 expr_Parser_prefix.B21 = true := by kernel_rfl
set_option maxHeartbeats 8000000 in
set_option maxRecDepth 100000 in
theorem expr_Parser_prefix.step (k : Nat) (ih_expr_Parser_prefix : ∀ k', k' < k → ∀ (g : Nat) (s0_0 : List (S136)) (s0_1 s0_2 s0_3 s0_4 s0_5 a1 r1 r2 r3 r4 : Int) (r5 : ByteArray) (r6 : Int) (r7 : ByteArray) (r8 : List (S31)) (r9 r10 r11 r12 r13 : Int) (w0 w : World) (hI : IsS63 w0 w g s0_0 s0_1 s0_2 s0_3 s0_4 s0_5) (hB : Below w0.heap.size w0 w) (h : expr_Parser_prefix.f k' s0_0 s0_1 s0_2 s0_3 s0_4 s0_5 a1 = some (r1, r2, r3, r4, r5, r6, r7, r8, r9, r10, r11, r12, r13)),
  Calls Tryz.prog 109 #[.pointer (some ⟨g, 0, none⟩), .int .i64 a1] w fun e w' => ∃ v7_ : Value, e = .returned (.agg #[.int .i64 r1, .int .i64 r2, .int .i64 r3, .int .i64 r4, .string r5, .int .i64 r6, .string r7, v7_]) ∧ Kd.V k31 31 w' w.heap.size (fun k_ => (w.heap.size ≤ k_)) v7_ r8 ∧ IsS63 w0 w' g s0_0 r9 r10 r11 r12 r13 ∧ Below w0.heap.size w0 w' ∧ KeepBut w w' g none) (ih_expr_Parser_chain : ∀ k', k' < k → ∀ (g : Nat) (s0_0 : List (S136)) (s0_1 s0_2 s0_3 s0_4 s0_5 a1 a2 r1 r2 r3 r4 : Int) (r5 : ByteArray) (r6 : Int) (r7 : ByteArray) (r8 : List (S31)) (r9 r10 r11 r12 r13 : Int) (w0 w : World) (hI : IsS63 w0 w g s0_0 s0_1 s0_2 s0_3 s0_4 s0_5) (hB : Below w0.heap.size w0 w) (h : expr_Parser_chain.f k' s0_0 s0_1 s0_2 s0_3 s0_4 s0_5 a1 a2 = some (r1, r2, r3, r4, r5, r6, r7, r8, r9, r10, r11, r12, r13)),
  Calls Tryz.prog 64 #[.pointer (some ⟨g, 0, none⟩), .int .i64 a1, .int .i64 a2] w fun e w' => ∃ v7_ : Value, e = .returned (.agg #[.int .i64 r1, .int .i64 r2, .int .i64 r3, .int .i64 r4, .string r5, .int .i64 r6, .string r7, v7_]) ∧ Kd.V k31 31 w' w.heap.size (fun k_ => (w.heap.size ≤ k_)) v7_ r8 ∧ IsS63 w0 w' g s0_0 r9 r10 r11 r12 r13 ∧ Below w0.heap.size w0 w' ∧ KeepBut w w' g none) (ih_expr_Parser_Expr : ∀ k', k' < k → ∀ (g : Nat) (s0_0 : List (S136)) (s0_1 s0_2 s0_3 s0_4 s0_5 a1 r1 r2 r3 r4 : Int) (r5 : ByteArray) (r6 : Int) (r7 : ByteArray) (r8 : List (S31)) (r9 r10 r11 r12 r13 : Int) (w0 w : World) (hI : IsS63 w0 w g s0_0 s0_1 s0_2 s0_3 s0_4 s0_5) (hB : Below w0.heap.size w0 w) (h : expr_Parser_Expr.f k' s0_0 s0_1 s0_2 s0_3 s0_4 s0_5 a1 = some (r1, r2, r3, r4, r5, r6, r7, r8, r9, r10, r11, r12, r13)),
  Calls Tryz.prog 31 #[.pointer (some ⟨g, 0, none⟩), .int .i64 a1] w fun e w' => ∃ v7_ : Value, e = .returned (.agg #[.int .i64 r1, .int .i64 r2, .int .i64 r3, .int .i64 r4, .string r5, .int .i64 r6, .string r7, v7_]) ∧ Kd.V k31 31 w' w.heap.size (fun k_ => (w.heap.size ≤ k_)) v7_ r8 ∧ IsS63 w0 w' g s0_0 r9 r10 r11 r12 r13 ∧ Below w0.heap.size w0 w' ∧ KeepBut w w' g none) : ∀ (g : Nat) (s0_0 : List (S136)) (s0_1 s0_2 s0_3 s0_4 s0_5 a1 r1 r2 r3 r4 : Int) (r5 : ByteArray) (r6 : Int) (r7 : ByteArray) (r8 : List (S31)) (r9 r10 r11 r12 r13 : Int) (w0 w : World) (hI : IsS63 w0 w g s0_0 s0_1 s0_2 s0_3 s0_4 s0_5) (hB : Below w0.heap.size w0 w) (h : expr_Parser_prefix.f k s0_0 s0_1 s0_2 s0_3 s0_4 s0_5 a1 = some (r1, r2, r3, r4, r5, r6, r7, r8, r9, r10, r11, r12, r13)),
  Calls Tryz.prog 109 #[.pointer (some ⟨g, 0, none⟩), .int .i64 a1] w fun e w' => ∃ v7_ : Value, e = .returned (.agg #[.int .i64 r1, .int .i64 r2, .int .i64 r3, .int .i64 r4, .string r5, .int .i64 r6, .string r7, v7_]) ∧ Kd.V k31 31 w' w.heap.size (fun k_ => (w.heap.size ≤ k_)) v7_ r8 ∧ IsS63 w0 w' g s0_0 r9 r10 r11 r12 r13 ∧ Below w0.heap.size w0 w' ∧ KeepBut w w' g none := by
 intro g s0_0 s0_1 s0_2 s0_3 s0_4 s0_5 a1 r1 r2 r3 r4 r5 r6 r7 r8 r9 r10 r11 r12 r13 w0 w hI hB h
 cases k with
 | zero => exact absurd h (by simp [expr_Parser_prefix.f])
 | succ k =>
 simp only [expr_Parser_prefix.f] at h
 have hu31 := Tryz.underlying31
 have hu25 := Tryz.underlying25
 have HI0 := am hI
 have HK := am (KeepBut.refl w g none)
 have HL := am hB.size
 clear hI
 have HW0 := am hB.size
 have HB := am hB
 clear hB
 have H : (if s0_4 = 0 then ((expr_Parser_Take.f k s0_0 s0_1 s0_2 s0_3 s0_4 s0_5 (⟨#[45]⟩ : ByteArray)).bind fun bt625 => (if bt625.1 = true then (none) else ((expr_Parser_Take.f k s0_0 bt625.2.1 bt625.2.2.1 bt625.2.2.2.1 bt625.2.2.2.2.1 bt625.2.2.2.2.2 (⟨#[40]⟩ : ByteArray)).bind fun bt631 => (if bt631.1 = true then ((expr_Parser_Expr.f k s0_0 bt631.2.1 bt631.2.2.1 bt631.2.2.2.1 bt631.2.2.2.2.1 bt631.2.2.2.2.2 (wrap64 (a1 + 1))).bind fun bt637 => ((expr_Parser_Need.f k s0_0 bt637.2.2.2.2.2.2.2.2.1 bt637.2.2.2.2.2.2.2.2.2.1 bt637.2.2.2.2.2.2.2.2.2.2.1 bt637.2.2.2.2.2.2.2.2.2.2.2.1 bt637.2.2.2.2.2.2.2.2.2.2.2.2 (⟨#[41]⟩ : ByteArray)).bind fun bt653 => (some (bt637.1, bt637.2.1, bt637.2.2.1, bt637.2.2.2.1, bt637.2.2.2.2.1, bt637.2.2.2.2.2.1, bt637.2.2.2.2.2.2.1, bt637.2.2.2.2.2.2.2.1, bt653.1, bt653.2.1, bt653.2.2.1, bt653.2.2.2.1, bt653.2.2.2.2)))) else ((expr_Parser_Take.f k s0_0 bt631.2.1 bt631.2.2.1 bt631.2.2.2.1 bt631.2.2.2.2.1 bt631.2.2.2.2.2 (⟨#[110, 111, 116]⟩ : ByteArray)).bind fun bt658 => (if bt658.1 = true then ((expr_Parser_Need.f k s0_0 bt658.2.1 bt658.2.2.1 bt658.2.2.2.1 bt658.2.2.2.2.1 bt658.2.2.2.2.2 (⟨#[40]⟩ : ByteArray)).bind fun bt664 => ((expr_Parser_Expr.f k s0_0 bt664.1 bt664.2.1 bt664.2.2.1 bt664.2.2.2.1 bt664.2.2.2.2 (wrap64 (a1 + 1))).bind fun bt669 => ((expr_Parser_Need.f k s0_0 bt669.2.2.2.2.2.2.2.2.1 bt669.2.2.2.2.2.2.2.2.2.1 bt669.2.2.2.2.2.2.2.2.2.2.1 bt669.2.2.2.2.2.2.2.2.2.2.2.1 bt669.2.2.2.2.2.2.2.2.2.2.2.2 (⟨#[41]⟩ : ByteArray)).bind fun bt685 => ((expr_Parser_make.f s0_0 bt685.1 bt685.2.1 bt685.2.2.1 bt685.2.2.2.1 bt685.2.2.2.2 16 (([(⟨bt669.1, (⟨bt669.2.1, (⟨bt669.2.2.1, bt669.2.2.2.1⟩ : S23), bt669.2.2.2.2.1, bt669.2.2.2.2.2.1⟩ : S25), bt669.2.2.2.2.2.2.1, bt669.2.2.2.2.2.2.2.1⟩ : S31)] : List (S31)))).bind fun bt693 => (some (bt693.1, bt693.2.1, bt693.2.2.1, bt693.2.2.2.1, bt693.2.2.2.2.1, bt693.2.2.2.2.2.1, bt693.2.2.2.2.2.2.1, bt693.2.2.2.2.2.2.2.1, bt693.2.2.2.2.2.2.2.2.1, bt693.2.2.2.2.2.2.2.2.2.1, bt693.2.2.2.2.2.2.2.2.2.2.1, bt693.2.2.2.2.2.2.2.2.2.2.2.1, bt693.2.2.2.2.2.2.2.2.2.2.2.2)))))) else ((expr_Parser_Value.f k s0_0 bt658.2.1 bt658.2.2.1 bt658.2.2.2.1 bt658.2.2.2.2.1 bt658.2.2.2.2.2).bind fun bt708 => (if bt708.2.2.2.2.2.1 = true then ((expr_Parser_make.f s0_0 bt708.2.2.2.2.2.2.1 bt708.2.2.2.2.2.2.2.1 bt708.2.2.2.2.2.2.2.2.1 bt708.2.2.2.2.2.2.2.2.2.1 bt708.2.2.2.2.2.2.2.2.2.2 1 ([] : List (S31))).bind fun bt720 => (some (bt720.1, bt708.1, bt708.2.1, bt708.2.2.1, bt708.2.2.2.1, bt708.2.2.2.2.1, bt720.2.2.2.2.2.2.1, bt720.2.2.2.2.2.2.2.1, bt720.2.2.2.2.2.2.2.2.1, bt720.2.2.2.2.2.2.2.2.2.1, bt720.2.2.2.2.2.2.2.2.2.2.1, bt720.2.2.2.2.2.2.2.2.2.2.2.1, bt720.2.2.2.2.2.2.2.2.2.2.2.2))) else (if bt708.2.2.2.2.2.2.1 < (s0_0.length : Int) then (if 0 ≤ bt708.2.2.2.2.2.2.1 then (if ((rd_T136 s0_0 bt708.2.2.2.2.2.2.1).f0) = 4 then ((lex_Word.f k ((rd_T136 s0_0 bt708.2.2.2.2.2.2.1).f2)).bind fun t738 => (expr_Parser_prefix.j0 k t738 s0_0 bt708.2.2.2.2.2.2.1 bt708.2.2.2.2.2.2.2.1 bt708.2.2.2.2.2.2.2.2.1 bt708.2.2.2.2.2.2.2.2.2.1 bt708.2.2.2.2.2.2.2.2.2.2)) else (expr_Parser_prefix.j0 k false s0_0 bt708.2.2.2.2.2.2.1 bt708.2.2.2.2.2.2.2.1 bt708.2.2.2.2.2.2.2.2.1 bt708.2.2.2.2.2.2.2.2.2.1 bt708.2.2.2.2.2.2.2.2.2.2)) else (none)) else (expr_Parser_prefix.j0 k false s0_0 bt708.2.2.2.2.2.2.1 bt708.2.2.2.2.2.2.2.1 bt708.2.2.2.2.2.2.2.2.1 bt708.2.2.2.2.2.2.2.2.2.1 bt708.2.2.2.2.2.2.2.2.2.2)))))))))) else (none)) = some (r1, r2, r3, r4, r5, r6, r7, r8, r9, r10, r11, r12, r13) := h
 clear h
 by_cases c3 : s0_4 = 0
 ·replace H := ipe c3 H
  obtain ⟨H, c3b0, c3b1⟩ := H
  clear c3
  replace H := obe6 H
  obtain ⟨t625, t626, t627, t628, t629, t630, A4, H⟩ := H
  by_cases c5 : t625 = true
  ·subst c5
   replace H := ift H
   exact absurd H (by simp)
  replace c5 := Bool.eq_false_iff.mpr c5
  subst c5
  replace H := iff_ H
  replace H := obe6 H
  obtain ⟨t631, t632, t633, t634, t635, t636, A6, H⟩ := H
  have HC7 := am H
  clear H
  go_enter Tryz.func109, Tryz.ntmps109
  go_upto_if 26 with (first | ((with_reducible refine gate_dst (N := 4) rfl ?_); refine bev (#[.int .i64 0, .int .i64 0, .int .i64 0, .int .i64 0, .string (⟨#[]⟩ : ByteArray), .int .i64 0, .string (⟨#[]⟩ : ByteArray), .slice none 0 0]) 31 ?_; intro gb624 hg w8 hbox hb; replace HB := sb HB hb; have BK624 := am (hbox); have GW624 := gk hg HK; have GE624 := am (Nat.le_trans HW0.out GW624.out); replace HK := am (KeepBut.trans (kz HK.out) (KeepBut.of_below hb g none) (.inl rfl)); have NB0_624 := am ((nlt (a := g) hg (IsS63.lt (show IsS63 w0 _ g s0_0 s0_1 s0_2 s0_3 s0_4 s0_5 from hz HI0.out)))); have NB624_0 := am ((ngt (a := g) hg (IsS63.lt (show IsS63 w0 _ g s0_0 s0_1 s0_2 s0_3 s0_4 s0_5 from hz HI0.out)))); replace HI0 := am (IsS63.below (hz HI0.out) hb); clear hb hbox hg; obtain ⟨ASz9_0, cSz9_0, HSz9_0, Z9_0, Z9_1, Z9_2, Z9_3, Z9_4, Z9_5, F9_1, F9_2, F9_3, F9_4, F9_5⟩ := open63 HI0.out) | ((with_reducible refine gate_callee (f := 63) rfl ?_); refine gl_ (some 19) Tryz.func63 (by kernel_rfl) #[.pointer (some ⟨g, 0, none⟩), .string (⟨#[45]⟩ : ByteArray)] rfl ?_; (with_reducible refine (expr_Parser_Take.calls k g s0_0 s0_1 s0_2 s0_3 s0_4 s0_5 (⟨#[45]⟩ : ByteArray) false t626 t627 t628 t629 t630 w0 _ ?side1 ?side2 A4.out).mono ?_); (case side1 => exact hz HI0.out); (case side2 => exact bz HB.out); rintro e w10 ⟨rfl, hi, hb, hk⟩; refine ⟨_, rfl, ?_⟩; replace BK624 := am (KeepBut.blk hk (bk BK624.out) NB624_0.out (by simp)); replace HK := am (KeepBut.trans (kz HK.out) hk (.inl rfl)); replace HB := am (hb); replace HI0 := am (hi); clear hb hk hi) | ((with_reducible refine gate_callee (f := 63) rfl ?_); refine gl_ (some 28) Tryz.func63 (by kernel_rfl) #[.pointer (some ⟨g, 0, none⟩), .string (⟨#[40]⟩ : ByteArray)] rfl ?_; (with_reducible refine (expr_Parser_Take.calls k g s0_0 t626 t627 t628 t629 t630 (⟨#[40]⟩ : ByteArray) t631 t632 t633 t634 t635 t636 w0 _ ?side1 ?side2 A6.out).mono ?_); (case side1 => exact hz HI0.out); (case side2 => exact bz HB.out); rintro e w11 ⟨rfl, hi, hb, hk⟩; refine ⟨_, rfl, ?_⟩; replace BK624 := am (KeepBut.blk hk (bk BK624.out) NB624_0.out (by simp)); replace HK := am (KeepBut.trans (kz HK.out) hk (.inl rfl)); replace HB := am (hb); replace HI0 := am (hi); clear hb hk hi))
  (try simp only [Act.put, List.setIfInBounds_toArray, List.set_cons_zero, List.set_cons_succ])
  have H := HC7.out
  clear HC7
  clear Z9_0 Z9_1 Z9_2 Z9_3 Z9_4 Z9_5 F9_1 F9_2 F9_3 F9_4 F9_5
  by_cases c12 : t631 = true
  ·subst c12
   replace H := ift H
   replace H := obe13 H
   obtain ⟨t637, t638, t639, t640, t641, t642, t643, t644, t647, t648, t649, t650, t651, A13, H⟩ := H
   replace H := obe5 H
   obtain ⟨t653, t654, t655, t656, t657, A14, H⟩ := H
   simp only [Option.some.injEq, Prod.mk.injEq] at H
   obtain ⟨rfl, rfl, rfl, rfl, rfl, rfl, rfl, rfl, rfl, rfl, rfl, rfl, rfl⟩ := H
   go_wp2_with (first | ((with_reducible refine gate_callee (f := 31) rfl ?_); refine gl_ (some 32) Tryz.func31 (by kernel_rfl) #[.pointer (some ⟨g, 0, none⟩), .int .i64 (wrap64 (a1 + 1))] rfl ?_; (with_reducible refine (ih_expr_Parser_Expr k (by omega) g s0_0 t632 t633 t634 t635 t636 (wrap64 (a1 + 1)) t637 t638 t639 t640 t641 t642 t643 t644 t647 t648 t649 t650 t651 w0 _ ?side1 ?side2 A13.out).mono ?_); (case side1 => exact hz HI0.out); (case side2 => exact bz HB.out); rintro e w15 ⟨v645, rfl, ho0, hi, hb, hk⟩; refine ⟨_, rfl, ?_⟩; have HO646 := am (Kd.V_lower (Kd.V_mono (ok' := fun k_ => (w.heap.size ≤ k_) ∧ k_ ≠ gb624 ∧ k_ ≠ g) ho0 (fun k_ hk_ => ⟨(Nat.le_trans (keep_size (w := w) (g := g) (row := none) (kz HK.out)) hk_), (Kd.freshB (bk BK624.out) k_ hk_), (IsS63.fresh (hz HI0.out) k_ hk_)⟩)) (keep_size (w := w) (g := g) (row := none) (kz HK.out))); replace BK624 := am (KeepBut.blk hk (bk BK624.out) NB624_0.out (by simp)); replace HK := am (KeepBut.trans (kz HK.out) hk (.inl rfl)); replace HB := am (hb); replace HI0 := am (hi); clear hb hk hi ho0) | ((with_reducible refine gate_dst (N := 5) rfl ?_); refine bev (#[.int .i64 0, .int .i64 0, .int .i64 0, .int .i64 0, .string (⟨#[]⟩ : ByteArray), .int .i64 0, .string (⟨#[]⟩ : ByteArray), .slice none 0 0]) 31 ?_; intro gb652 hg w16 hbox hb; replace HO646 := am (Kd.V_below (Kd.V_elderB (vv HO646.out) gb652 (Nat.le_of_eq hg.symm)) hb); replace HB := sb HB hb; have BK652 := am (hbox); have GW652 := gk hg HK; have GE652 := am (Nat.le_trans HW0.out GW652.out); replace HK := am (KeepBut.trans (kz HK.out) (KeepBut.of_below hb g none) (.inl rfl)); have NB624_652 := na hg BK624; have NB652_624 := nb hg BK624; replace BK624 := kb BK624 hb; have NB0_652 := am ((nlt (a := g) hg (IsS63.lt (show IsS63 w0 _ g s0_0 t647 t648 t649 t650 t651 from hz HI0.out)))); have NB652_0 := am ((ngt (a := g) hg (IsS63.lt (show IsS63 w0 _ g s0_0 t647 t648 t649 t650 t651 from hz HI0.out)))); replace HI0 := am (IsS63.below (hz HI0.out) hb); clear hb hbox hg; have hnb17 := NB652_624.out; have hnc17 := NB624_652.out; have hnb18 := NB652_0.out; have hnc18 := NB0_652.out; obtain ⟨Z19_0, Z19_1, Z19_2, Z19_3, Z19_4, Z19_5, Z19_6, Z19_7, F19_0, F19_1, F19_2, F19_3, F19_4, F19_5, F19_6, F19_7⟩ := cz8 BK652.out; obtain ⟨Ao20, co20, eo20⟩ := Kd.V_slice HO646.out; subst eo20) | ((with_reducible refine gate_callee (f := 65) rfl ?_); refine gl_ (some 34) Tryz.func65 (by kernel_rfl) #[.pointer (some ⟨g, 0, none⟩), .string (⟨#[41]⟩ : ByteArray)] rfl ?_; (with_reducible refine (expr_Parser_Need.calls k g s0_0 t647 t648 t649 t650 t651 (⟨#[41]⟩ : ByteArray) t653 t654 t655 t656 t657 w0 _ ?side1 ?side2 A14.out).mono ?_); (case side1 => exact hz HI0.out); (case side2 => exact bz HB.out); rintro e w21 ⟨rfl, hi, hb, hk⟩; refine ⟨_, rfl, ?_⟩; replace BK624 := am (KeepBut.blk hk (g' := gb624) (o := .cells #[.int .i64 0, .int .i64 0, .int .i64 0, .int .i64 0, .string (⟨#[]⟩ : ByteArray), .int .i64 0, .string (⟨#[]⟩ : ByteArray), .slice none 0 0] 31 (0, 0)) (bp BK624.out) NB624_0.out (by simp)); replace HO646 := am (Kd.V_mono (Kd.V_keep (Kd.V_mono (ok := fun k_ => ((((w.heap.size ≤ k_)) ∧ (k_ ≠ gb624 ∧ k_ ≠ g)) ∧ k_ ≠ gb652)) (by (with_reducible repeat (first | apply Kd.V_alloc | apply Kd.V_drewN | apply Kd.V_drew)); exact (Kd.V_mono (Kd.V_far (p := ⟨gb652, 7, none⟩) (Kd.V_far (p := ⟨gb652, 6, none⟩) (Kd.V_far (p := ⟨gb652, 5, none⟩) (Kd.V_far (p := ⟨gb652, 4, none⟩) (Kd.V_far (p := ⟨gb652, 3, none⟩) (Kd.V_far (p := ⟨gb652, 2, none⟩) (Kd.V_far (p := ⟨gb652, 1, none⟩) (Kd.V_far (p := ⟨gb652, 0, none⟩) (Kd.V_mono HO646.out (fun k_ hk => (⟨hk, hk.2⟩ : _ ∧ k_ ≠ gb652))) (fun _ hk => hk.2) (.int .i64 t637)) (fun _ hk => hk.2) (.int .i64 t638)) (fun _ hk => hk.2) (.int .i64 t639)) (fun _ hk => hk.2) (.int .i64 t640)) (fun _ hk => hk.2) (.string t641)) (fun _ hk => hk.2) (.int .i64 t642)) (fun _ hk => hk.2) (.string t643)) (fun _ hk => hk.2) (.slice Ao20 t644.length co20)) (fun _ h_ => h_.1))) (fun k_ hk_ => (⟨hk_, hk_.1.2.2⟩ : _ ∧ k_ ≠ g))) hk (fun _ h => h.2)) (fun _ h => h.1)); replace BK652 := am (KeepBut.blk hk (g' := gb652) (o := .cells #[.int .i64 t637, .int .i64 t638, .int .i64 t639, .int .i64 t640, .string t641, .int .i64 t642, .string t643, .slice Ao20 t644.length co20] 31 (0, 0)) (bp BK652.out) NB652_0.out (by simp)); replace HK := am (KeepBut.trans (kz HK.out) hk (.inl rfl)); replace HB := am (hb); replace HI0 := am (hi); clear hb hk hi; obtain ⟨Z22_0, Z22_1, Z22_2, Z22_3, Z22_4, Z22_5, Z22_6, Z22_7, F22_0, F22_1, F22_2, F22_3, F22_4, F22_5, F22_6, F22_7⟩ := cz8 BK652.out; have hnb23 := NB624_0.out; have hnc23 := NB0_624.out; obtain ⟨Z24_0, Z24_1, Z24_2, Z24_3, Z24_4, Z24_5, Z24_6, Z24_7, F24_0, F24_1, F24_2, F24_3, F24_4, F24_5, F24_6, F24_7⟩ := cz8 BK624.out))
   refine bodyPost_ret (results_cell_row rfl _ _ gb624 31 #[.int .i64 t637, .int .i64 t638, .int .i64 t639, .int .i64 t640, .string t641, .int .i64 t642, .string t643, .slice Ao20 t644.length co20] (0, 0) _ rfl (bp BK624.out) Tryz.underlying31 rfl (by kernel_rfl)) rfl ?_
   exact ⟨_, az, by (with_reducible repeat (first | apply Kd.V_alloc | apply Kd.V_drewN | apply Kd.V_drew)); exact Kd.V_mono (Kd.V_far (p := ⟨gb624, 7, none⟩) (Kd.V_far (p := ⟨gb624, 6, none⟩) (Kd.V_far (p := ⟨gb624, 5, none⟩) (Kd.V_far (p := ⟨gb624, 4, none⟩) (Kd.V_far (p := ⟨gb624, 3, none⟩) (Kd.V_far (p := ⟨gb624, 2, none⟩) (Kd.V_far (p := ⟨gb624, 1, none⟩) (Kd.V_far (p := ⟨gb624, 0, none⟩) (Kd.V_mono HO646.out (fun k_ hk => (⟨hk, hk.1.2.1⟩ : _ ∧ k_ ≠ gb624))) (fun _ hk => hk.2) (.int .i64 t637)) (fun _ hk => hk.2) (.int .i64 t638)) (fun _ hk => hk.2) (.int .i64 t639)) (fun _ hk => hk.2) (.int .i64 t640)) (fun _ hk => hk.2) (.string t641)) (fun _ hk => hk.2) (.int .i64 t642)) (fun _ hk => hk.2) (.string t643)) (fun _ hk => hk.2) (.slice Ao20 t644.length co20)) (fun _ hk => hk.1.1.1), hz HI0.out, bz HB.out, kz HK.out⟩
  replace c12 := Bool.eq_false_iff.mpr c12
  subst c12
  replace H := iff_ H
  replace H := obe6 H
  obtain ⟨t658, t659, t660, t661, t662, t663, A25, H⟩ := H
  have HC26 := am H
  clear H
  go_upto_if 36 with (first | ((with_reducible refine gate_callee (f := 63) rfl ?_); refine gl_ (some 38) Tryz.func63 (by kernel_rfl) #[.pointer (some ⟨g, 0, none⟩), .string (⟨#[110, 111, 116]⟩ : ByteArray)] rfl ?_; (with_reducible refine (expr_Parser_Take.calls k g s0_0 t632 t633 t634 t635 t636 (⟨#[110, 111, 116]⟩ : ByteArray) t658 t659 t660 t661 t662 t663 w0 _ ?side1 ?side2 A25.out).mono ?_); (case side1 => exact hz HI0.out); (case side2 => exact bz HB.out); rintro e w27 ⟨rfl, hi, hb, hk⟩; refine ⟨_, rfl, ?_⟩; replace BK624 := am (KeepBut.blk hk (bk BK624.out) NB624_0.out (by simp)); replace HK := am (KeepBut.trans (kz HK.out) hk (.inl rfl)); replace HB := am (hb); replace HI0 := am (hi); clear hb hk hi))
  (try simp only [Act.put, List.setIfInBounds_toArray, List.set_cons_zero, List.set_cons_succ])
  have H := HC26.out
  clear HC26
  by_cases c28 : t658 = true
  ·subst c28
   replace H := ift H
   replace H := obe5 H
   obtain ⟨t664, t665, t666, t667, t668, A29, H⟩ := H
   replace H := obe13 H
   obtain ⟨t669, t670, t671, t672, t673, t674, t675, t676, t679, t680, t681, t682, t683, A30, H⟩ := H
   replace H := obe5 H
   obtain ⟨t685, t686, t687, t688, t689, A31, H⟩ := H
   obtain ⟨y690, hy690⟩ : ∃ y_ : List (S31), y_ = (([(⟨t669, (⟨t670, (⟨t671, t672⟩ : S23), t673, t674⟩ : S25), t675, t676⟩ : S31)] : List (S31))) := ⟨_, rfl⟩
   replace H : ((expr_Parser_make.f s0_0 t685 t686 t687 t688 t689 16 y690).bind fun bt693 => (some (bt693.1, bt693.2.1, bt693.2.2.1, bt693.2.2.2.1, bt693.2.2.2.2.1, bt693.2.2.2.2.2.1, bt693.2.2.2.2.2.2.1, bt693.2.2.2.2.2.2.2.1, bt693.2.2.2.2.2.2.2.2.1, bt693.2.2.2.2.2.2.2.2.2.1, bt693.2.2.2.2.2.2.2.2.2.2.1, bt693.2.2.2.2.2.2.2.2.2.2.2.1, bt693.2.2.2.2.2.2.2.2.2.2.2.2))) = some (r1, r2, r3, r4, r5, r6, r7, r8, r9, r10, r11, r12, r13) := by first | (rw [hy690]; with_reducible exact H) | (have H2_ := (Option.bind_some _ _).symm.trans H; rw [hy690]; with_reducible exact H2_) | (have H2_ := (Option.bind_some _ _).symm.trans H; with_reducible exact H2_) | with_reducible exact H | (rw [hy690]; exact H) | exact H
   have Ny690 := am hy690
   clear hy690
   replace H := obe13 H
   obtain ⟨t693, t694, t695, t696, t697, t698, t699, t700, t703, t704, t705, t706, t707, A32, H⟩ := H
   simp only [Option.some.injEq, Prod.mk.injEq] at H
   obtain ⟨rfl, rfl, rfl, rfl, rfl, rfl, rfl, rfl, rfl, rfl, rfl, rfl, rfl⟩ := H
   go_wp2_with (first | ((with_reducible refine gate_callee (f := 65) rfl ?_); refine gl_ (some 40) Tryz.func65 (by kernel_rfl) #[.pointer (some ⟨g, 0, none⟩), .string (⟨#[40]⟩ : ByteArray)] rfl ?_; (with_reducible refine (expr_Parser_Need.calls k g s0_0 t659 t660 t661 t662 t663 (⟨#[40]⟩ : ByteArray) t664 t665 t666 t667 t668 w0 _ ?side1 ?side2 A29.out).mono ?_); (case side1 => exact hz HI0.out); (case side2 => exact bz HB.out); rintro e w33 ⟨rfl, hi, hb, hk⟩; refine ⟨_, rfl, ?_⟩; replace BK624 := am (KeepBut.blk hk (bk BK624.out) NB624_0.out (by simp)); replace HK := am (KeepBut.trans (kz HK.out) hk (.inl rfl)); replace HB := am (hb); replace HI0 := am (hi); clear hb hk hi) | ((with_reducible refine gate_callee (f := 31) rfl ?_); refine gl_ (some 44) Tryz.func31 (by kernel_rfl) #[.pointer (some ⟨g, 0, none⟩), .int .i64 (wrap64 (a1 + 1))] rfl ?_; (with_reducible refine (ih_expr_Parser_Expr k (by omega) g s0_0 t664 t665 t666 t667 t668 (wrap64 (a1 + 1)) t669 t670 t671 t672 t673 t674 t675 t676 t679 t680 t681 t682 t683 w0 _ ?side1 ?side2 A30.out).mono ?_); (case side1 => exact hz HI0.out); (case side2 => exact bz HB.out); rintro e w34 ⟨v677, rfl, ho0, hi, hb, hk⟩; refine ⟨_, rfl, ?_⟩; have HO678 := am (Kd.V_lower (Kd.V_mono (ok' := fun k_ => (w.heap.size ≤ k_) ∧ k_ ≠ gb624 ∧ k_ ≠ g) ho0 (fun k_ hk_ => ⟨(Nat.le_trans (keep_size (w := w) (g := g) (row := none) (kz HK.out)) hk_), (Kd.freshB (bk BK624.out) k_ hk_), (IsS63.fresh (hz HI0.out) k_ hk_)⟩)) (keep_size (w := w) (g := g) (row := none) (kz HK.out))); replace BK624 := am (KeepBut.blk hk (bk BK624.out) NB624_0.out (by simp)); replace HK := am (KeepBut.trans (kz HK.out) hk (.inl rfl)); replace HB := am (hb); replace HI0 := am (hi); clear hb hk hi ho0) | ((with_reducible refine gate_dst (N := 6) rfl ?_); refine bev (#[.int .i64 0, .int .i64 0, .int .i64 0, .int .i64 0, .string (⟨#[]⟩ : ByteArray), .int .i64 0, .string (⟨#[]⟩ : ByteArray), .slice none 0 0]) 31 ?_; intro gb684 hg w35 hbox hb; replace HO678 := am (Kd.V_below (Kd.V_elderB (vv HO678.out) gb684 (Nat.le_of_eq hg.symm)) hb); replace HB := sb HB hb; have BK684 := am (hbox); have GW684 := gk hg HK; have GE684 := am (Nat.le_trans HW0.out GW684.out); replace HK := am (KeepBut.trans (kz HK.out) (KeepBut.of_below hb g none) (.inl rfl)); have NB624_684 := na hg BK624; have NB684_624 := nb hg BK624; replace BK624 := kb BK624 hb; have NB0_684 := am ((nlt (a := g) hg (IsS63.lt (show IsS63 w0 _ g s0_0 t679 t680 t681 t682 t683 from hz HI0.out)))); have NB684_0 := am ((ngt (a := g) hg (IsS63.lt (show IsS63 w0 _ g s0_0 t679 t680 t681 t682 t683 from hz HI0.out)))); replace HI0 := am (IsS63.below (hz HI0.out) hb); clear hb hbox hg; have hnb36 := NB684_624.out; have hnc36 := NB624_684.out; have hnb37 := NB684_0.out; have hnc37 := NB0_684.out; obtain ⟨Z38_0, Z38_1, Z38_2, Z38_3, Z38_4, Z38_5, Z38_6, Z38_7, F38_0, F38_1, F38_2, F38_3, F38_4, F38_5, F38_6, F38_7⟩ := cz8 BK684.out; obtain ⟨Ao39, co39, eo39⟩ := Kd.V_slice HO678.out; subst eo39) | ((with_reducible refine gate_callee (f := 65) rfl ?_); refine gl_ (some 46) Tryz.func65 (by kernel_rfl) #[.pointer (some ⟨g, 0, none⟩), .string (⟨#[41]⟩ : ByteArray)] rfl ?_; (with_reducible refine (expr_Parser_Need.calls k g s0_0 t679 t680 t681 t682 t683 (⟨#[41]⟩ : ByteArray) t685 t686 t687 t688 t689 w0 _ ?side1 ?side2 A31.out).mono ?_); (case side1 => exact hz HI0.out); (case side2 => exact bz HB.out); rintro e w40 ⟨rfl, hi, hb, hk⟩; refine ⟨_, rfl, ?_⟩; replace BK624 := am (KeepBut.blk hk (g' := gb624) (o := .cells #[.int .i64 0, .int .i64 0, .int .i64 0, .int .i64 0, .string (⟨#[]⟩ : ByteArray), .int .i64 0, .string (⟨#[]⟩ : ByteArray), .slice none 0 0] 31 (0, 0)) (bp BK624.out) NB624_0.out (by simp)); replace HO678 := am (Kd.V_mono (Kd.V_keep (Kd.V_mono (ok := fun k_ => ((((w.heap.size ≤ k_)) ∧ (k_ ≠ gb624 ∧ k_ ≠ g)) ∧ k_ ≠ gb684)) (by (with_reducible repeat (first | apply Kd.V_alloc | apply Kd.V_drewN | apply Kd.V_drew)); exact (Kd.V_mono (Kd.V_far (p := ⟨gb684, 7, none⟩) (Kd.V_far (p := ⟨gb684, 6, none⟩) (Kd.V_far (p := ⟨gb684, 5, none⟩) (Kd.V_far (p := ⟨gb684, 4, none⟩) (Kd.V_far (p := ⟨gb684, 3, none⟩) (Kd.V_far (p := ⟨gb684, 2, none⟩) (Kd.V_far (p := ⟨gb684, 1, none⟩) (Kd.V_far (p := ⟨gb684, 0, none⟩) (Kd.V_mono HO678.out (fun k_ hk => (⟨hk, hk.2⟩ : _ ∧ k_ ≠ gb684))) (fun _ hk => hk.2) (.int .i64 t669)) (fun _ hk => hk.2) (.int .i64 t670)) (fun _ hk => hk.2) (.int .i64 t671)) (fun _ hk => hk.2) (.int .i64 t672)) (fun _ hk => hk.2) (.string t673)) (fun _ hk => hk.2) (.int .i64 t674)) (fun _ hk => hk.2) (.string t675)) (fun _ hk => hk.2) (.slice Ao39 t676.length co39)) (fun _ h_ => h_.1))) (fun k_ hk_ => (⟨hk_, hk_.1.2.2⟩ : _ ∧ k_ ≠ g))) hk (fun _ h => h.2)) (fun _ h => h.1)); replace BK684 := am (KeepBut.blk hk (g' := gb684) (o := .cells #[.int .i64 t669, .int .i64 t670, .int .i64 t671, .int .i64 t672, .string t673, .int .i64 t674, .string t675, .slice Ao39 t676.length co39] 31 (0, 0)) (bp BK684.out) NB684_0.out (by simp)); replace HK := am (KeepBut.trans (kz HK.out) hk (.inl rfl)); replace HB := am (hb); replace HI0 := am (hi); clear hb hk hi; obtain ⟨Z41_0, Z41_1, Z41_2, Z41_3, Z41_4, Z41_5, Z41_6, Z41_7, F41_0, F41_1, F41_2, F41_3, F41_4, F41_5, F41_6, F41_7⟩ := cz8 BK684.out) | ((with_reducible refine gate_dst (N := 49) rfl ?_); refine Kd.N_lit k31 _ 31 ?hg (N' := 49) ?hd (xs := ([(⟨t669, (⟨t670, (⟨t671, t672⟩ : S23), t673, t674⟩ : S25), t675, t676⟩ : S31)] : List (S31))) (inner := [.int .i64 t669, .int .i64 t670, .int .i64 t671, .int .i64 t672, .string t673, .int .i64 t674, .string t675, .slice Ao39 t676.length co39]) (ok := (fun k_ => (w.heap.size ≤ k_) ∧ k_ ≠ gb624 ∧ k_ ≠ gb684 ∧ k_ ≠ g)) (okp := (fun k_ => (w.heap.size ≤ k_) ∧ k_ ≠ gb624 ∧ k_ ≠ gb684 ∧ k_ ≠ g)) ?hr ?hp (fun _ hk => hk) ((show ∀ k_, w40.heap.size ≤ k_ → (fun k_ => (w.heap.size ≤ k_) ∧ k_ ≠ gb624 ∧ k_ ≠ gb684 ∧ k_ ≠ g) k_ from fun k_ hk => ⟨(Nat.le_trans (keep_size (w := w) (g := g) (row := none) (kz HK.out)) hk), Kd.freshB (bk BK624.out) k_ hk, Kd.freshB (bk BK684.out) k_ hk, IsS63.fresh (hz HI0.out) k_ hk⟩) _ (Nat.le_refl _)) (Below.refl _ _) (Nat.le_refl _) (by simp) ?_; (case hd => rfl); (case hg => rfl); (case hr => first | (go_simp; done) | (go_simp; rfl)); (case hp => exact (Reps.c8 (show Kd.FK k31 _ _ (⟨t669, (⟨t670, (⟨t671, t672⟩ : S23), t673, t674⟩ : S25), t675, t676⟩ : S31) [.int .i64 t669, .int .i64 t670, .int .i64 t671, .int .i64 t672, .string t673, .int .i64 t674, .string t675, .slice Ao39 t676.length co39] from (k31_mkF _ _ (⟨t669, (⟨t670, (⟨t671, t672⟩ : S23), t673, t674⟩ : S25), t675, t676⟩ : S31) (Kd.V_reads' (Kd.V_mono (ok' := (fun k_ => (w.heap.size ≤ k_) ∧ k_ ≠ gb624 ∧ k_ ≠ gb684 ∧ k_ ≠ g)) (HO678.out) (fun k_ hk => ⟨hk.1.1, ⟨hk.1.2.1, ⟨hk.2, hk.1.2.2⟩⟩⟩))).2.1 (Kd.V_F (Kd.V_mono (ok' := (fun k_ => (w.heap.size ≤ k_) ∧ k_ ≠ gb624 ∧ k_ ≠ gb684 ∧ k_ ≠ g)) (HO678.out) (fun k_ hk => ⟨hk.1.1, ⟨hk.1.2.1, ⟨hk.2, hk.1.2.2⟩⟩⟩))))) (Reps.none _ _))); intro v691 w42 ho43 hb hg_ hnew_; clear hg_ hnew_; (first | rw [← Ny690.out] at ho43 | (simp only [Int.reduceToNat] at ho43; rw [← Ny690.out] at ho43)); replace HO678 := am (Kd.V_elder' (vv HO678.out) (Kd.N_base ho43) hb); have HO692 := am (Kd.N_lower ho43 (keep_size (w := w) (g := g) (row := none) (kz HK.out))); replace BK624 := kb BK624 hb; replace BK684 := kb BK684 hb; replace HK := am (KeepBut.trans (kz HK.out) (KeepBut.of_below hb g none) (.inl rfl)); replace HB := sb HB hb; replace HI0 := am (IsS63.below (hz HI0.out) hb); clear hb ho43; obtain ⟨Ao44, co44, eo44⟩ := Kd.N_slice HO692.out; subst eo44) | ((with_reducible refine gate_callee (f := 66) rfl ?_); refine gl_ (some 50) Tryz.func66 (by kernel_rfl) #[.pointer (some ⟨g, 0, none⟩), .int .i64 16, .slice Ao44 y690.length co44] rfl ?_; (with_reducible refine (expr_Parser_make.calls g s0_0 t685 t686 t687 t688 t689 16 (fun k_ => ((w.heap.size ≤ k_) ∧ (k_ ≠ gb624 ∧ (k_ ≠ gb684 ∧ k_ ≠ g)))) _ _ y690 t693 t694 t695 t696 t697 t698 t699 t700 t703 t704 t705 t706 t707 w0 _ ?side1 ?side2 ?side3 A32.out).mono ?_); (case side1 => exact hz HI0.out); (case side2 => exact bz HB.out); (case side3 => exact Kd.V_mono (Kd.N_V (HO692.out)) (fun k_ hk_ => ⟨hk_, hk_.2.2.2⟩)); rintro e w45 ⟨v701, rfl, ho0, hi, hb, hk⟩; refine ⟨_, rfl, ?_⟩; replace HO678 := am (Kd.V_mono (Kd.V_keep (Kd.V_mono (ok := fun k_ => (((((w.heap.size ≤ k_)) ∧ (k_ ≠ gb624 ∧ k_ ≠ g)) ∧ k_ ≠ gb684) ∧ some k_ ≠ (.slice Ao44 y690.length co44 : Value).ownBlock)) (vv HO678.out) (fun k_ hk_ => (⟨hk_, hk_.1.1.2.2⟩ : _ ∧ k_ ≠ g))) hk (fun _ h => h.2)) (fun _ h => h.1)); replace HO692 := am (Kd.N_mono (Kd.N_keep (Kd.N_mono (ok := fun k_ => (((w.heap.size ≤ k_)) ∧ (k_ ≠ gb624 ∧ (k_ ≠ gb684 ∧ k_ ≠ g)))) (nn HO692.out) (fun k_ hk_ => (⟨hk_, hk_.2.2.2⟩ : _ ∧ k_ ≠ g))) hk (fun _ h => h.2)) (fun _ h => h.1)); have HO702 := am (Kd.V_lower (Kd.V_mono (ok' := fun k_ => (w.heap.size ≤ k_) ∧ k_ ≠ gb624 ∧ k_ ≠ gb684 ∧ k_ ≠ g) ho0 (fun k_ hk_ => ⟨Or.elim hk_ (fun hs_ => hs_.1) (fun hn_ => (Nat.le_trans (keep_size (w := w) (g := g) (row := none) (kz HK.out)) hn_)), Or.elim hk_ (fun hs_ => hs_.2.1) (fun hn_ => (Kd.freshB (bk BK624.out) k_ hn_)), Or.elim hk_ (fun hs_ => hs_.2.2.1) (fun hn_ => (Kd.freshB (bk BK684.out) k_ hn_)), Or.elim hk_ (fun hs_ => hs_.2.2.2) (fun hn_ => (IsS63.fresh (hz HI0.out) k_ hn_))⟩)) (keep_size (w := w) (g := g) (row := none) (kz HK.out))); replace BK624 := am (KeepBut.blk hk (bk BK624.out) NB624_0.out (by simp)); replace BK684 := am (KeepBut.blk hk (bk BK684.out) NB684_0.out (by simp)); replace HK := am (KeepBut.trans (kz HK.out) hk (.inl rfl)); replace HB := am (hb); replace HI0 := am (hi); clear hb hk hi ho0; have hnb46 := NB624_0.out; have hnc46 := NB0_624.out; obtain ⟨Z47_0, Z47_1, Z47_2, Z47_3, Z47_4, Z47_5, Z47_6, Z47_7, F47_0, F47_1, F47_2, F47_3, F47_4, F47_5, F47_6, F47_7⟩ := cz8 BK624.out; obtain ⟨Ao48, co48, eo48⟩ := Kd.V_slice HO702.out; subst eo48))
   refine bodyPost_ret (results_cell_row rfl _ _ gb624 31 #[.int .i64 t693, .int .i64 t694, .int .i64 t695, .int .i64 t696, .string t697, .int .i64 t698, .string t699, .slice Ao48 t700.length co48] (0, 0) _ rfl (bp BK624.out) Tryz.underlying31 rfl (by kernel_rfl)) rfl ?_
   exact ⟨_, az, by (with_reducible repeat (first | apply Kd.V_alloc | apply Kd.V_drewN | apply Kd.V_drew)); exact Kd.V_mono (Kd.V_far (p := ⟨gb624, 7, none⟩) (Kd.V_far (p := ⟨gb624, 6, none⟩) (Kd.V_far (p := ⟨gb624, 5, none⟩) (Kd.V_far (p := ⟨gb624, 4, none⟩) (Kd.V_far (p := ⟨gb624, 3, none⟩) (Kd.V_far (p := ⟨gb624, 2, none⟩) (Kd.V_far (p := ⟨gb624, 1, none⟩) (Kd.V_far (p := ⟨gb624, 0, none⟩) (Kd.V_mono HO702.out (fun k_ hk => (⟨hk, hk.2.1⟩ : _ ∧ k_ ≠ gb624))) (fun _ hk => hk.2) (.int .i64 t693)) (fun _ hk => hk.2) (.int .i64 t694)) (fun _ hk => hk.2) (.int .i64 t695)) (fun _ hk => hk.2) (.int .i64 t696)) (fun _ hk => hk.2) (.string t697)) (fun _ hk => hk.2) (.int .i64 t698)) (fun _ hk => hk.2) (.string t699)) (fun _ hk => hk.2) (.slice Ao48 t700.length co48)) (fun _ hk => hk.1.1), hz HI0.out, bz HB.out, kz HK.out⟩
  replace c28 := Bool.eq_false_iff.mpr c28
  subst c28
  replace H := iff_ H
  replace H := obe11 H
  obtain ⟨t708, t709, t710, t711, t712, t713, t714, t715, t716, t717, t718, A49, H⟩ := H
  have HC50 := am H
  clear H
  go_upto_if 56 with (first | ((with_reducible refine gate_callee (f := 150) rfl ?_); refine gl_ (some 53) Tryz.func150 (by kernel_rfl) #[.pointer (some ⟨g, 0, none⟩)] rfl ?_; (with_reducible refine (expr_Parser_Value.calls k g s0_0 t659 t660 t661 t662 t663 t708 t709 t710 t711 t712 t713 t714 t715 t716 t717 t718 w0 _ ?side1 ?side2 A49.out).mono ?_); (case side1 => exact hz HI0.out); (case side2 => exact bz HB.out); rintro e w51 ⟨rfl, hi, hb, hk⟩; refine ⟨_, rfl, ?_⟩; replace BK624 := am (KeepBut.blk hk (bk BK624.out) NB624_0.out (by simp)); replace HK := am (KeepBut.trans (kz HK.out) hk (.inl rfl)); replace HB := am (hb); replace HI0 := am (hi); clear hb hk hi) | ((with_reducible refine gate_dst (N := 7) rfl ?_); refine bev (#[.int .i64 0, .int .i64 0, .int .i64 0, .string (⟨#[]⟩ : ByteArray), .int .i64 0]) 25 ?_; intro gb719 hg w52 hbox hb; replace HB := sb HB hb; have BK719 := am (hbox); have GW719 := gk hg HK; have GE719 := am (Nat.le_trans HW0.out GW719.out); replace HK := am (KeepBut.trans (kz HK.out) (KeepBut.of_below hb g none) (.inl rfl)); have NB624_719 := na hg BK624; have NB719_624 := nb hg BK624; replace BK624 := kb BK624 hb; have NB0_719 := am ((nlt (a := g) hg (IsS63.lt (show IsS63 w0 _ g s0_0 t714 t715 t716 t717 t718 from hz HI0.out)))); have NB719_0 := am ((ngt (a := g) hg (IsS63.lt (show IsS63 w0 _ g s0_0 t714 t715 t716 t717 t718 from hz HI0.out)))); replace HI0 := am (IsS63.below (hz HI0.out) hb); clear hb hbox hg; have hnb53 := NB719_624.out; have hnc53 := NB624_719.out; have hnb54 := NB719_0.out; have hnc54 := NB0_719.out; obtain ⟨Z55_0, Z55_1, Z55_2, Z55_3, Z55_4, F55_0, F55_1, F55_2, F55_3, F55_4⟩ := cz5 BK719.out))
  (try simp only [Act.put, List.setIfInBounds_toArray, List.set_cons_zero, List.set_cons_succ])
  have H := HC50.out
  clear HC50
  clear Z55_0 Z55_1 Z55_2 Z55_3 Z55_4 F55_0 F55_1 F55_2 F55_3 F55_4
  by_cases c56 : t713 = true
  ·subst c56
   replace H := ift H
   replace H := obe13 H
   obtain ⟨t720, t721, t722, t723, t724, t725, t726, t727, t730, t731, t732, t733, t734, A57, H⟩ := H
   simp only [Option.some.injEq, Prod.mk.injEq] at H
   obtain ⟨rfl, rfl, rfl, rfl, rfl, rfl, rfl, rfl, rfl, rfl, rfl, rfl, rfl⟩ := H
   go_wp2_with (first | ((with_reducible refine gate_callee (f := 66) rfl ?_); refine gl_ (some 58) Tryz.func66 (by kernel_rfl) #[.pointer (some ⟨g, 0, none⟩), .int .i64 1, .slice none 0 0] rfl ?_; (refine (expr_Parser_make.calls g s0_0 t714 t715 t716 t717 t718 1 (fun k_ => False) _ _ ([] : List (S31)) t720 t721 t722 t723 t724 t725 t726 t727 t730 t731 t732 t733 t734 w0 _ ?side1 ?side2 ?side3 A57.out).mono ?_); (case side1 => exact hz HI0.out); (case side2 => exact bz HB.out); (case side3 => exact Kd.V_nil _ _ _ _ _); rintro e w58 ⟨v728, rfl, ho0, hi, hb, hk⟩; refine ⟨_, rfl, ?_⟩; have HO729 := am (Kd.V_lower (Kd.V_mono (ok' := fun k_ => (w.heap.size ≤ k_) ∧ k_ ≠ gb624 ∧ k_ ≠ gb719 ∧ k_ ≠ g) ho0 (fun k_ hk_ => ⟨Or.elim hk_ (fun hs_ => (hs_).elim) (fun hn_ => (Nat.le_trans (keep_size (w := w) (g := g) (row := none) (kz HK.out)) hn_)), Or.elim hk_ (fun hs_ => (hs_).elim) (fun hn_ => (Kd.freshB (g := gb624) (o := .cells #[.int .i64 0, .int .i64 0, .int .i64 0, .int .i64 0, .string (⟨#[]⟩ : ByteArray), .int .i64 0, .string (⟨#[]⟩ : ByteArray), .slice none 0 0] 31 (0, 0)) (bp BK624.out) k_ hn_)), Or.elim hk_ (fun hs_ => (hs_).elim) (fun hn_ => (Kd.freshB (g := gb719) (o := .cells #[.int .i64 t708, .int .i64 t709, .int .i64 t710, .string t711, .int .i64 t712] 25 (0, 0)) (bp BK719.out) k_ hn_)), Or.elim hk_ (fun hs_ => (hs_).elim) (fun hn_ => (IsS63.fresh (hz HI0.out) k_ hn_))⟩)) (keep_size (w := w) (g := g) (row := none) (kz HK.out))); replace BK624 := am (KeepBut.blk hk (g' := gb624) (o := .cells #[.int .i64 0, .int .i64 0, .int .i64 0, .int .i64 0, .string (⟨#[]⟩ : ByteArray), .int .i64 0, .string (⟨#[]⟩ : ByteArray), .slice none 0 0] 31 (0, 0)) (bp BK624.out) NB624_0.out (by simp)); replace BK719 := am (KeepBut.blk hk (g' := gb719) (o := .cells #[.int .i64 t708, .int .i64 t709, .int .i64 t710, .string t711, .int .i64 t712] 25 (0, 0)) (bp BK719.out) NB719_0.out (by simp)); replace HK := am (KeepBut.trans (kz HK.out) hk (.inl rfl)); replace HB := am (hb); replace HI0 := am (hi); clear hb hk hi ho0) | ((with_reducible refine gate_dst (N := 9) rfl ?_); refine bev (#[.int .i64 0, .int .i64 0, .int .i64 0, .int .i64 0, .string (⟨#[]⟩ : ByteArray), .int .i64 0, .string (⟨#[]⟩ : ByteArray), .slice none 0 0]) 31 ?_; intro gb735 hg w59 hbox hb; replace HO729 := am (Kd.V_below (Kd.V_elderB (vv HO729.out) gb735 (Nat.le_of_eq hg.symm)) hb); replace HB := sb HB hb; have BK735 := am (hbox); have GW735 := gk hg HK; have GE735 := am (Nat.le_trans HW0.out GW735.out); replace HK := am (KeepBut.trans (kz HK.out) (KeepBut.of_below hb g none) (.inl rfl)); have NB624_735 := na hg BK624; have NB735_624 := nb hg BK624; replace BK624 := kb BK624 hb; have NB719_735 := na hg BK719; have NB735_719 := nb hg BK719; replace BK719 := kb BK719 hb; have NB0_735 := am ((nlt (a := g) hg (IsS63.lt (show IsS63 w0 _ g s0_0 t730 t731 t732 t733 t734 from hz HI0.out)))); have NB735_0 := am ((ngt (a := g) hg (IsS63.lt (show IsS63 w0 _ g s0_0 t730 t731 t732 t733 t734 from hz HI0.out)))); replace HI0 := am (IsS63.below (hz HI0.out) hb); clear hb hbox hg; have hnb60 := NB735_624.out; have hnc60 := NB624_735.out; have hnb61 := NB735_719.out; have hnc61 := NB719_735.out; have hnb62 := NB735_0.out; have hnc62 := NB0_735.out; obtain ⟨Z63_0, Z63_1, Z63_2, Z63_3, Z63_4, Z63_5, Z63_6, Z63_7, F63_0, F63_1, F63_2, F63_3, F63_4, F63_5, F63_6, F63_7⟩ := cz8 BK735.out; obtain ⟨Ao64, co64, eo64⟩ := Kd.V_slice HO729.out; subst eo64; have hnb65 := NB719_624.out; have hnc65 := NB624_719.out; have hnb66 := NB719_0.out; have hnc66 := NB0_719.out; obtain ⟨Z67_0, Z67_1, Z67_2, Z67_3, Z67_4, F67_0, F67_1, F67_2, F67_3, F67_4⟩ := cz5 BK719.out; have hnb68 := NB624_0.out; have hnc68 := NB0_624.out; obtain ⟨Z69_0, Z69_1, Z69_2, Z69_3, Z69_4, Z69_5, Z69_6, Z69_7, F69_0, F69_1, F69_2, F69_3, F69_4, F69_5, F69_6, F69_7⟩ := cz8 BK624.out))
   refine bodyPost_ret (results_cell_row rfl _ _ gb624 31 #[.int .i64 t720, .int .i64 t708, .int .i64 t709, .int .i64 t710, .string t711, .int .i64 t712, .string t726, .slice Ao64 t727.length co64] (0, 0) _ rfl (bp BK624.out) Tryz.underlying31 rfl (by kernel_rfl)) rfl ?_
   exact ⟨_, az, by (with_reducible repeat (first | apply Kd.V_alloc | apply Kd.V_drewN | apply Kd.V_drew)); exact Kd.V_mono (Kd.V_far (p := ⟨gb624, 7, none⟩) (Kd.V_far (p := ⟨gb624, 6, none⟩) (Kd.V_far (p := ⟨gb624, 5, none⟩) (Kd.V_far (p := ⟨gb624, 4, none⟩) (Kd.V_far (p := ⟨gb624, 3, none⟩) (Kd.V_far (p := ⟨gb624, 2, none⟩) (Kd.V_far (p := ⟨gb624, 1, none⟩) (Kd.V_far (p := ⟨gb624, 0, none⟩) (Kd.V_far (p := ⟨gb735, 5, none⟩) (Kd.V_far (p := ⟨gb735, 4, none⟩) (Kd.V_far (p := ⟨gb735, 3, none⟩) (Kd.V_far (p := ⟨gb735, 2, none⟩) (Kd.V_far (p := ⟨gb735, 1, none⟩) (Kd.V_far (p := ⟨gb735, 7, none⟩) (Kd.V_far (p := ⟨gb735, 6, none⟩) (Kd.V_far (p := ⟨gb735, 5, none⟩) (Kd.V_far (p := ⟨gb735, 4, none⟩) (Kd.V_far (p := ⟨gb735, 3, none⟩) (Kd.V_far (p := ⟨gb735, 2, none⟩) (Kd.V_far (p := ⟨gb735, 1, none⟩) (Kd.V_far (p := ⟨gb735, 0, none⟩) (Kd.V_mono (Kd.V_mono HO729.out (fun k_ hk => (⟨hk, hk.2⟩ : _ ∧ k_ ≠ gb735))) (fun k_ hk => (⟨hk, hk.1.1.2.1⟩ : _ ∧ k_ ≠ gb624))) (fun _ hk => hk.1.2) (.int .i64 t720)) (fun _ hk => hk.1.2) (.int .i64 t721)) (fun _ hk => hk.1.2) (.int .i64 t722)) (fun _ hk => hk.1.2) (.int .i64 t723)) (fun _ hk => hk.1.2) (.string t724)) (fun _ hk => hk.1.2) (.int .i64 t725)) (fun _ hk => hk.1.2) (.string t726)) (fun _ hk => hk.1.2) (.slice Ao64 t727.length co64)) (fun _ hk => hk.1.2) (.int .i64 t708)) (fun _ hk => hk.1.2) (.int .i64 t709)) (fun _ hk => hk.1.2) (.int .i64 t710)) (fun _ hk => hk.1.2) (.string t711)) (fun _ hk => hk.1.2) (.int .i64 t712)) (fun _ hk => hk.2) (.int .i64 t720)) (fun _ hk => hk.2) (.int .i64 t708)) (fun _ hk => hk.2) (.int .i64 t709)) (fun _ hk => hk.2) (.int .i64 t710)) (fun _ hk => hk.2) (.string t711)) (fun _ hk => hk.2) (.int .i64 t712)) (fun _ hk => hk.2) (.string t726)) (fun _ hk => hk.2) (.slice Ao64 t727.length co64)) (fun _ hk => hk.1.1.1.1), hz HI0.out, bz HB.out, kz HK.out⟩
  replace c56 := Bool.eq_false_iff.mpr c56
  subst c56
  replace H := iff_ H
  have HC70 := am H
  clear H
  go_upto_region 19 with (fail)
  go_cut [99] (fun v99 wc => ∃ (kq : Nat) (x99_69 : Bool), v99 = .bool x99_69 ∧ Aside0 (expr_Parser_prefix.j0 kq x99_69 s0_0 t714 t715 t716 t717 t718 = some (r1, r2, r3, r4, r5, r6, r7, r8, r9, r10, r11, r12, r13)) ∧ Aside0 (kq ≤ k) ∧ Aside0 (wc.heap[gb624]? = some (.cells #[.int .i64 0, .int .i64 0, .int .i64 0, .int .i64 0, .string (⟨#[]⟩ : ByteArray), .int .i64 0, .string (⟨#[]⟩ : ByteArray), (.slice none 0 0)] 31 (0, 0))) ∧ Aside0 (wc.heap[gb719]? = some (.cells #[.int .i64 t708, .int .i64 t709, .int .i64 t710, .string t711, .int .i64 t712] 25 (0, 0))) ∧ Aside0 (IsS63 w0 wc g s0_0 t714 t715 t716 t717 t718) ∧ Aside0 (KeepBut w wc g none) ∧ Aside0 (Below w0.heap.size w0 wc))
  case first =>
   have H := HC70.out
   clear HC70
   by_cases c71 : t714 < (s0_0.length : Int)
   ·rw [if_pos c71] at H
    have c71b0 : decide (t714 < (s0_0.length : Int)) = true := decide_eq_true c71
    clear c71
    (first | rw [c71b0] | (simp only [i64_w, i32_w]; rw [c71b0]) | skip)
    by_cases c72 : 0 ≤ t714
    ·rw [if_pos c72] at H
     have c72b0 : decide (0 ≤ t714) = true := decide_eq_true c72
     clear c72
     by_cases c73 : ((rd_T136 s0_0 t714).f0) = 4
     ·replace H := ipe c73 H
      obtain ⟨H, c73b0, c73b1⟩ := H
      clear c73
      replace H := obe H
      obtain ⟨t738, A74, H⟩ := H
      have H' := am H
      clear H
      try go_wp2
      have n0_ : Aside0 ((((((w52.setCell ⟨gb719, 0, none⟩ (.int .i64 t708)).setCell ⟨gb719, 1, none⟩ (.int .i64 t709)).setCell ⟨gb719, 2, none⟩ (.int .i64 t710)).setCell ⟨gb719, 3, none⟩ (.string t711)).setCell ⟨gb719, 4, none⟩ (.int .i64 t712)).heap[gb624]? = some (.cells #[.int .i64 0, .int .i64 0, .int .i64 0, .int .i64 0, .string (⟨#[]⟩ : ByteArray), .int .i64 0, .string (⟨#[]⟩ : ByteArray), .slice none 0 0] 31 (0, 0))) := ⟨bp BK624.out⟩
      have n1_ : Aside0 ((((((w52.setCell ⟨gb719, 0, none⟩ (.int .i64 t708)).setCell ⟨gb719, 1, none⟩ (.int .i64 t709)).setCell ⟨gb719, 2, none⟩ (.int .i64 t710)).setCell ⟨gb719, 3, none⟩ (.string t711)).setCell ⟨gb719, 4, none⟩ (.int .i64 t712)).heap[gb719]? = some (.cells #[.int .i64 t708, .int .i64 t709, .int .i64 t710, .string t711, .int .i64 t712] 25 (0, 0))) := ⟨bp BK719.out⟩
      have n2_ : Aside0 (IsS63 w0 (((((w52.setCell ⟨gb719, 0, none⟩ (.int .i64 t708)).setCell ⟨gb719, 1, none⟩ (.int .i64 t709)).setCell ⟨gb719, 2, none⟩ (.int .i64 t710)).setCell ⟨gb719, 3, none⟩ (.string t711)).setCell ⟨gb719, 4, none⟩ (.int .i64 t712)) g s0_0 t714 t715 t716 t717 t718) := ⟨hz HI0.out⟩
      have n3_ : Aside0 (KeepBut w (((((w52.setCell ⟨gb719, 0, none⟩ (.int .i64 t708)).setCell ⟨gb719, 1, none⟩ (.int .i64 t709)).setCell ⟨gb719, 2, none⟩ (.int .i64 t710)).setCell ⟨gb719, 3, none⟩ (.string t711)).setCell ⟨gb719, 4, none⟩ (.int .i64 t712)) g none) := ⟨kz HK.out⟩
      have n4_ : Aside0 (Below w0.heap.size w0 (((((w52.setCell ⟨gb719, 0, none⟩ (.int .i64 t708)).setCell ⟨gb719, 1, none⟩ (.int .i64 t709)).setCell ⟨gb719, 2, none⟩ (.int .i64 t710)).setCell ⟨gb719, 3, none⟩ (.string t711)).setCell ⟨gb719, 4, none⟩ (.int .i64 t712))) := ⟨bz HB.out⟩
      (try clear BK624)
      (try clear BK719)
      (try clear HI0)
      (try clear HK)
      (try clear HB)
      generalize (((((w52.setCell ⟨gb719, 0, none⟩ (.int .i64 t708)).setCell ⟨gb719, 1, none⟩ (.int .i64 t709)).setCell ⟨gb719, 2, none⟩ (.int .i64 t710)).setCell ⟨gb719, 3, none⟩ (.string t711)).setCell ⟨gb719, 4, none⟩ (.int .i64 t712)) = w75 at n0_ n1_ n2_ n3_ n4_ ⊢
      have BK624 := n0_
      have BK719 := n1_
      have HI0 := n2_
      have HK := n3_
      have HB := n4_
      clear n0_ n1_ n2_ n3_ n4_
      replace BK624 := am (blk_drew BK624.out)
      replace BK719 := am (blk_drew BK719.out)
      replace HI0 := am (IsS63.drew HI0.out)
      replace HK := am (keep_drew HK.out)
      replace HB := am (below_drew1 HB.out)
      obtain ⟨ASz77_0, cSz77_0, HSz77_0, Z77_0, Z77_1, Z77_2, Z77_3, Z77_4, Z77_5, F77_1, F77_2, F77_3, F77_4, F77_5⟩ := open63 HI0.out
      have p736 : 0 ≤ (t714 : Int) := of_decide_eq_true tz
      have q736 : t714 < (s0_0.length : Int) := of_decide_eq_true tz
      obtain ⟨ad736, e736, hx736_0, hx736_1, hx736_2, hx736_3, hx736_4, hx736_5⟩ := at_T136 HSz77_0 t714 p736 q736
      have hw736_5 := hx736_5
      have hw736_4 := hx736_4
      have hw736_3 := hx736_3
      have hw736_2 := hx736_2
      have hw736_1 := hx736_1
      have hw736_0 := hx736_0
      cases e736
      replace hx736_0 := pw_cell_below HB.out hx736_0
      replace hx736_1 := pw_cell_below HB.out hx736_1
      replace hx736_2 := pw_cell_below HB.out hx736_2
      replace hx736_3 := pw_cell_below HB.out hx736_3
      replace hx736_4 := pw_cell_below HB.out hx736_4
      replace hx736_5 := pw_cell_below HB.out hx736_5
      replace p736 := eq_true p736
      replace q736 := eq_true q736
      have p737 : 0 ≤ (t714 : Int) := of_decide_eq_true tz
      have q737 : t714 < (s0_0.length : Int) := of_decide_eq_true tz
      obtain ⟨ad737, e737, hx737_0, hx737_1, hx737_2, hx737_3, hx737_4, hx737_5⟩ := at_T136 HSz77_0 t714 p737 q737
      have hw737_5 := hx737_5
      have hw737_4 := hx737_4
      have hw737_3 := hx737_3
      have hw737_2 := hx737_2
      have hw737_1 := hx737_1
      have hw737_0 := hx737_0
      obtain rfl : ad736 = ad737 := (by injection e737)
      replace hx737_0 := pw_cell_below HB.out hx737_0
      replace hx737_1 := pw_cell_below HB.out hx737_1
      replace hx737_2 := pw_cell_below HB.out hx737_2
      replace hx737_3 := pw_cell_below HB.out hx737_3
      replace hx737_4 := pw_cell_below HB.out hx737_4
      replace hx737_5 := pw_cell_below HB.out hx737_5
      replace p737 := eq_true p737
      replace q737 := eq_true q737
      refine start_ (n := 38) (S := fun w' => w'.cell? ⟨g, 0, none⟩ = some (.slice (some ad736) s0_0.length cSz77_0) ∧ w'.cell? ⟨g, 1, none⟩ = some (.int .i64 t714) ∧ w'.cell? ⟨g, 2, none⟩ = some (.int .i64 t715) ∧ w'.cell? ⟨g, 3, none⟩ = some (.int .i64 t716) ∧ w'.cell? ⟨g, 4, none⟩ = some (.int .i64 t717) ∧ w'.cell? ⟨g, 5, none⟩ = some (.int .i64 t718) ∧ w'.cell? (ad736.add ((t714).toNat * 6)) = some (.int .i64 ((rd_T136 s0_0 t714).f0)) ∧ w'.cell? ⟨(ad736.add ((t714).toNat * 6)).block, (ad736.add ((t714).toNat * 6)).off + 1, none⟩ = some (.int .i64 ((rd_T136 s0_0 t714).f1)) ∧ w'.cell? ⟨(ad736.add ((t714).toNat * 6)).block, (ad736.add ((t714).toNat * 6)).off + 2, none⟩ = some (.string ((rd_T136 s0_0 t714).f2)) ∧ w'.cell? ⟨(ad736.add ((t714).toNat * 6)).block, (ad736.add ((t714).toNat * 6)).off + 3, none⟩ = some (.int .i64 ((rd_T136 s0_0 t714).f3.f0)) ∧ w'.cell? ⟨(ad736.add ((t714).toNat * 6)).block, (ad736.add ((t714).toNat * 6)).off + 4, none⟩ = some (.int .i64 ((rd_T136 s0_0 t714).f3.f1)) ∧ w'.cell? ⟨(ad736.add ((t714).toNat * 6)).block, (ad736.add ((t714).toNat * 6)).off + 5, none⟩ = some (.int .i64 ((rd_T136 s0_0 t714).f4)) ∧ w'.cell? (ad736.add ((t714).toNat * 6)) = some (.int .i64 ((rd_T136 s0_0 t714).f0)) ∧ w'.cell? ⟨(ad736.add ((t714).toNat * 6)).block, (ad736.add ((t714).toNat * 6)).off + 1, none⟩ = some (.int .i64 ((rd_T136 s0_0 t714).f1)) ∧ w'.cell? ⟨(ad736.add ((t714).toNat * 6)).block, (ad736.add ((t714).toNat * 6)).off + 2, none⟩ = some (.string ((rd_T136 s0_0 t714).f2)) ∧ w'.cell? ⟨(ad736.add ((t714).toNat * 6)).block, (ad736.add ((t714).toNat * 6)).off + 3, none⟩ = some (.int .i64 ((rd_T136 s0_0 t714).f3.f0)) ∧ w'.cell? ⟨(ad736.add ((t714).toNat * 6)).block, (ad736.add ((t714).toNat * 6)).off + 4, none⟩ = some (.int .i64 ((rd_T136 s0_0 t714).f3.f1)) ∧ w'.cell? ⟨(ad736.add ((t714).toNat * 6)).block, (ad736.add ((t714).toNat * 6)).off + 5, none⟩ = some (.int .i64 ((rd_T136 s0_0 t714).f4))) (ds := []) (bts0 38) (by kernel_rfl) rfl rfl ⟨Z77_0, Z77_1, Z77_2, Z77_3, Z77_4, Z77_5, (hbw HB.out hw736_0), (hbw HB.out hw736_1), (hbw HB.out hw736_2), (hbw HB.out hw736_3), (hbw HB.out hw736_4), (hbw HB.out hw736_5), (hbw HB.out hw737_0), (hbw HB.out hw737_1), (hbw HB.out hw737_2), (hbw HB.out hw737_3), (hbw HB.out hw737_4), (hbw HB.out hw737_5)⟩ (fun hHeld => ?_); refine with_tabW expr_Parser_prefix.tab19 expr_Parser_prefix.bits19 (fun HT_ HW_ => ?_)
      generalize w75.drew = w76 at BK624 BK719 HI0 HK HB hx736_0 hx736_1 hx736_2 hx736_3 hx736_4 hx736_5 hx737_0 hx737_1 hx737_2 hx737_3 hx737_4 hx737_5 hHeld ⊢
      refine pu 0 (some 62) (bts 38 1) (any_of HT_.out (by kernel_rfl)) ?_
      refine pu 1 (some 63) (bts 38 3) (any_of HT_.out (by kernel_rfl)) ?_
      refine pu 2 (some 64) (bts 38 7) (any_of HT_.out (by kernel_rfl)) ?_
      refine pu 4 (some 66) (bts 38 23) (any_of HT_.out (by kernel_rfl)) ?_
      refine pu 5 (some 67) (bts 38 55) (any_of HT_.out (by kernel_rfl)) ?_
      refine pu 6 (some 68) (bts 38 119) (any_of HT_.out (by kernel_rfl)) ?_
      refine ta 3 (some 65) (bts 38 127) (take_ofW HT_.out HW_.out (by kernel_rfl)) hHeld ?_
      refine ta 7 (some 69) (bts 38 255) (take_ofW HT_.out HW_.out (by kernel_rfl)) hHeld ?_
      refine pu 8 (some 70) (bts 38 511) (any_of HT_.out (by kernel_rfl)) ?_
      refine pu 9 (some 71) (bts 38 1023) (any_of HT_.out (by kernel_rfl)) ?_
      refine pu 10 (some 72) (bts 38 2047) (any_of HT_.out (by kernel_rfl)) ?_
      refine pu 11 (some 73) (bts 38 4095) (any_of HT_.out (by kernel_rfl)) ?_
      refine pu 12 (some 74) (bts 38 8191) (any_of HT_.out (by kernel_rfl)) ?_
      refine pu 13 (some 75) (bts 38 16383) (any_of HT_.out (by kernel_rfl)) ?_
      refine pu 15 (some 77) (bts 38 49151) (any_of HT_.out (by kernel_rfl)) ?_
      refine pu 16 (some 78) (bts 38 114687) (any_of HT_.out (by kernel_rfl)) ?_
      refine pu 17 (some 79) (bts 38 245759) (any_of HT_.out (by kernel_rfl)) ?_
      refine ta 14 (some 76) (bts 38 262143) (take_ofW HT_.out HW_.out (by kernel_rfl)) hHeld ?_
      refine ta 18 (some 80) (bts 38 524287) (take_ofW HT_.out HW_.out (by kernel_rfl)) hHeld ?_
      refine pu 19 (some 81) (bts 38 1048575) (any_of HT_.out (by kernel_rfl)) ?_
      refine pu 20 (some 82) (bts 38 2097151) (any_of HT_.out (by kernel_rfl)) ?_
      refine ta 21 (some 83) (bts 38 4194303) (take_ofW HT_.out HW_.out (by kernel_rfl)) hHeld ?_
      refine pu 22 (some 84) (bts 38 8388607) (any_of HT_.out (by kernel_rfl)) ?_
      refine pu 23 (some 85) (bts 38 16777215) (any_of HT_.out (by kernel_rfl)) ?_
      refine pu 24 (some 86) (bts 38 33554431) (any_of HT_.out (by kernel_rfl)) ?_
      refine pu 25 (some 87) (bts 38 67108863) (any_of HT_.out (by kernel_rfl)) ?_
      refine pu 26 (some 88) (bts 38 134217727) (any_of HT_.out (by kernel_rfl)) ?_
      refine pu 27 (some 89) (bts 38 268435455) (any_of HT_.out (by kernel_rfl)) ?_
      refine pu 29 (some 91) (bts 38 805306367) (any_of HT_.out (by kernel_rfl)) ?_
      refine pu 30 (some 92) (bts 38 1879048191) (any_of HT_.out (by kernel_rfl)) ?_
      refine pu 31 (some 93) (bts 38 4026531839) (any_of HT_.out (by kernel_rfl)) ?_
      refine ta 28 (some 90) (bts 38 4294967295) (take_ofW HT_.out HW_.out (by kernel_rfl)) hHeld ?_
      refine ta 32 (some 94) (bts 38 8589934591) (take_ofW HT_.out HW_.out (by kernel_rfl)) hHeld ?_
      refine pu 33 (some 95) (bts 38 17179869183) (any_of HT_.out (by kernel_rfl)) ?_
      refine pu 34 (some 96) (bts 38 34359738367) (any_of HT_.out (by kernel_rfl)) ?_
      refine ta 35 (some 97) (bts 38 68719476735) (take_ofW HT_.out HW_.out (by kernel_rfl)) hHeld ?_
      refine one_ (i := 36) (N := some 98) (bts 38 137438953471) rfl rfl (one_of HT_.out (by kernel_rfl)) (by decide) (fun K hK => ?_)
      refine goes_ Tryz.func112 (by kernel_rfl) rfl #[.string ((rd_T136 s0_0 t714).f2)] (by rfl) rfl rfl lz ?_
      with_reducible refine (lex_Word.calls k ((rd_T136 s0_0 t714).f2) t738 _ A74.out).mono ?_
      rintro e w78 ⟨rfl, hb⟩
      have HS0_ := (hb.cell (World.block_lt_of_cell? _ _ (hHeld.1))).trans (hHeld.1)
      have HS1_ := (hb.cell (World.block_lt_of_cell? _ _ (hHeld.2.1))).trans (hHeld.2.1)
      have HS2_ := (hb.cell (World.block_lt_of_cell? _ _ (hHeld.2.2.1))).trans (hHeld.2.2.1)
      have HS3_ := (hb.cell (World.block_lt_of_cell? _ _ (hHeld.2.2.2.1))).trans (hHeld.2.2.2.1)
      have HS4_ := (hb.cell (World.block_lt_of_cell? _ _ (hHeld.2.2.2.2.1))).trans (hHeld.2.2.2.2.1)
      have HS5_ := (hb.cell (World.block_lt_of_cell? _ _ (hHeld.2.2.2.2.2.1))).trans (hHeld.2.2.2.2.2.1)
      refine ⟨_, rfl, ?_⟩
      replace HI0 := am (IsS63.below (hz HI0.out) hb)
      replace BK624 := kb BK624 hb
      replace BK719 := kb BK719 hb
      replace HK := am (KeepBut.trans (kz HK.out) (KeepBut.of_below hb g none) (.inl rfl))
      replace HB := sb HB hb
      (try clear hb)
      (try clear hb2)
      (try clear hk)
      (try clear hi)
      refine hK.out _ _ ⟨HS0_, HS1_, HS2_, HS3_, HS4_, HS5_, (hbw HB.out hw736_0), (hbw HB.out hw736_1), (hbw HB.out hw736_2), (hbw HB.out hw736_3), (hbw HB.out hw736_4), (hbw HB.out hw736_5), (hbw HB.out hw737_0), (hbw HB.out hw737_1), (hbw HB.out hw737_2), (hbw HB.out hw737_3), (hbw HB.out hw737_4), (hbw HB.out hw737_5)⟩ (fun hHeld => ?_)
      clear hK K
      refine norm_ (a' := ?_) ?_ ?_
      rotate_left
      ·show Act.put _ (some 98) _ = _
       simp only [Act.put, List.setIfInBounds_toArray, List.set_cons_zero, List.set_cons_succ, i64_w, i32_w]
       rfl
      refine pu 37 (some 99) (bts 38 274877906943) (any_of HT_.out (by kernel_rfl)) ?_
      refine done_ (done_of HT_.out (by kernel_rfl)) ?_
      try go_wp2
      go_meet
      case rel => exact ⟨_, (t738), sz, H', ⟨oz⟩, ⟨bk BK624.out⟩, ⟨bk BK719.out⟩, ⟨hz HI0.out⟩, ⟨kz HK.out⟩, ⟨bz HB.out⟩⟩
     replace H := ine c73 H
     obtain ⟨H, c73b0, c73b1⟩ := H
     have H' := am H
     clear H
     try go_wp2
     have n0_ : Aside0 ((((((w52.setCell ⟨gb719, 0, none⟩ (.int .i64 t708)).setCell ⟨gb719, 1, none⟩ (.int .i64 t709)).setCell ⟨gb719, 2, none⟩ (.int .i64 t710)).setCell ⟨gb719, 3, none⟩ (.string t711)).setCell ⟨gb719, 4, none⟩ (.int .i64 t712)).heap[gb624]? = some (.cells #[.int .i64 0, .int .i64 0, .int .i64 0, .int .i64 0, .string (⟨#[]⟩ : ByteArray), .int .i64 0, .string (⟨#[]⟩ : ByteArray), .slice none 0 0] 31 (0, 0))) := ⟨bp BK624.out⟩
     have n1_ : Aside0 ((((((w52.setCell ⟨gb719, 0, none⟩ (.int .i64 t708)).setCell ⟨gb719, 1, none⟩ (.int .i64 t709)).setCell ⟨gb719, 2, none⟩ (.int .i64 t710)).setCell ⟨gb719, 3, none⟩ (.string t711)).setCell ⟨gb719, 4, none⟩ (.int .i64 t712)).heap[gb719]? = some (.cells #[.int .i64 t708, .int .i64 t709, .int .i64 t710, .string t711, .int .i64 t712] 25 (0, 0))) := ⟨bp BK719.out⟩
     have n2_ : Aside0 (IsS63 w0 (((((w52.setCell ⟨gb719, 0, none⟩ (.int .i64 t708)).setCell ⟨gb719, 1, none⟩ (.int .i64 t709)).setCell ⟨gb719, 2, none⟩ (.int .i64 t710)).setCell ⟨gb719, 3, none⟩ (.string t711)).setCell ⟨gb719, 4, none⟩ (.int .i64 t712)) g s0_0 t714 t715 t716 t717 t718) := ⟨hz HI0.out⟩
     have n3_ : Aside0 (KeepBut w (((((w52.setCell ⟨gb719, 0, none⟩ (.int .i64 t708)).setCell ⟨gb719, 1, none⟩ (.int .i64 t709)).setCell ⟨gb719, 2, none⟩ (.int .i64 t710)).setCell ⟨gb719, 3, none⟩ (.string t711)).setCell ⟨gb719, 4, none⟩ (.int .i64 t712)) g none) := ⟨kz HK.out⟩
     have n4_ : Aside0 (Below w0.heap.size w0 (((((w52.setCell ⟨gb719, 0, none⟩ (.int .i64 t708)).setCell ⟨gb719, 1, none⟩ (.int .i64 t709)).setCell ⟨gb719, 2, none⟩ (.int .i64 t710)).setCell ⟨gb719, 3, none⟩ (.string t711)).setCell ⟨gb719, 4, none⟩ (.int .i64 t712))) := ⟨bz HB.out⟩
     (try clear BK624)
     (try clear BK719)
     (try clear HI0)
     (try clear HK)
     (try clear HB)
     generalize (((((w52.setCell ⟨gb719, 0, none⟩ (.int .i64 t708)).setCell ⟨gb719, 1, none⟩ (.int .i64 t709)).setCell ⟨gb719, 2, none⟩ (.int .i64 t710)).setCell ⟨gb719, 3, none⟩ (.string t711)).setCell ⟨gb719, 4, none⟩ (.int .i64 t712)) = w79 at n0_ n1_ n2_ n3_ n4_ ⊢
     have BK624 := n0_
     have BK719 := n1_
     have HI0 := n2_
     have HK := n3_
     have HB := n4_
     clear n0_ n1_ n2_ n3_ n4_
     replace BK624 := am (blk_drew BK624.out)
     replace BK719 := am (blk_drew BK719.out)
     replace HI0 := am (IsS63.drew HI0.out)
     replace HK := am (keep_drew HK.out)
     replace HB := am (below_drew1 HB.out)
     obtain ⟨ASz81_0, cSz81_0, HSz81_0, Z81_0, Z81_1, Z81_2, Z81_3, Z81_4, Z81_5, F81_1, F81_2, F81_3, F81_4, F81_5⟩ := open63 HI0.out
     have p736 : 0 ≤ (t714 : Int) := of_decide_eq_true tz
     have q736 : t714 < (s0_0.length : Int) := of_decide_eq_true tz
     obtain ⟨ad736, e736, hx736_0, hx736_1, hx736_2, hx736_3, hx736_4, hx736_5⟩ := at_T136 HSz81_0 t714 p736 q736
     have hw736_5 := hx736_5
     have hw736_4 := hx736_4
     have hw736_3 := hx736_3
     have hw736_2 := hx736_2
     have hw736_1 := hx736_1
     have hw736_0 := hx736_0
     cases e736
     replace hx736_0 := pw_cell_below HB.out hx736_0
     replace hx736_1 := pw_cell_below HB.out hx736_1
     replace hx736_2 := pw_cell_below HB.out hx736_2
     replace hx736_3 := pw_cell_below HB.out hx736_3
     replace hx736_4 := pw_cell_below HB.out hx736_4
     replace hx736_5 := pw_cell_below HB.out hx736_5
     replace p736 := eq_true p736
     replace q736 := eq_true q736
     refine start_ (n := 38) (S := fun w' => w'.cell? ⟨g, 0, none⟩ = some (.slice (some ad736) s0_0.length cSz81_0) ∧ w'.cell? ⟨g, 1, none⟩ = some (.int .i64 t714) ∧ w'.cell? ⟨g, 2, none⟩ = some (.int .i64 t715) ∧ w'.cell? ⟨g, 3, none⟩ = some (.int .i64 t716) ∧ w'.cell? ⟨g, 4, none⟩ = some (.int .i64 t717) ∧ w'.cell? ⟨g, 5, none⟩ = some (.int .i64 t718) ∧ w'.cell? (ad736.add ((t714).toNat * 6)) = some (.int .i64 ((rd_T136 s0_0 t714).f0)) ∧ w'.cell? ⟨(ad736.add ((t714).toNat * 6)).block, (ad736.add ((t714).toNat * 6)).off + 1, none⟩ = some (.int .i64 ((rd_T136 s0_0 t714).f1)) ∧ w'.cell? ⟨(ad736.add ((t714).toNat * 6)).block, (ad736.add ((t714).toNat * 6)).off + 2, none⟩ = some (.string ((rd_T136 s0_0 t714).f2)) ∧ w'.cell? ⟨(ad736.add ((t714).toNat * 6)).block, (ad736.add ((t714).toNat * 6)).off + 3, none⟩ = some (.int .i64 ((rd_T136 s0_0 t714).f3.f0)) ∧ w'.cell? ⟨(ad736.add ((t714).toNat * 6)).block, (ad736.add ((t714).toNat * 6)).off + 4, none⟩ = some (.int .i64 ((rd_T136 s0_0 t714).f3.f1)) ∧ w'.cell? ⟨(ad736.add ((t714).toNat * 6)).block, (ad736.add ((t714).toNat * 6)).off + 5, none⟩ = some (.int .i64 ((rd_T136 s0_0 t714).f4))) (ds := []) (bts0 38) (by kernel_rfl) rfl rfl ⟨Z81_0, Z81_1, Z81_2, Z81_3, Z81_4, Z81_5, (hbw HB.out hw736_0), (hbw HB.out hw736_1), (hbw HB.out hw736_2), (hbw HB.out hw736_3), (hbw HB.out hw736_4), (hbw HB.out hw736_5)⟩ (fun hHeld => ?_); refine with_tabW expr_Parser_prefix.tab19 expr_Parser_prefix.bits19 (fun HT_ HW_ => ?_)
     generalize w79.drew = w80 at BK624 BK719 HI0 HK HB hx736_0 hx736_1 hx736_2 hx736_3 hx736_4 hx736_5 hHeld ⊢
     refine pu 0 (some 62) (bts 38 1) (any_of HT_.out (by kernel_rfl)) ?_
     refine pu 1 (some 63) (bts 38 3) (any_of HT_.out (by kernel_rfl)) ?_
     refine pu 2 (some 64) (bts 38 7) (any_of HT_.out (by kernel_rfl)) ?_
     refine pu 4 (some 66) (bts 38 23) (any_of HT_.out (by kernel_rfl)) ?_
     refine pu 5 (some 67) (bts 38 55) (any_of HT_.out (by kernel_rfl)) ?_
     refine pu 6 (some 68) (bts 38 119) (any_of HT_.out (by kernel_rfl)) ?_
     refine ta 3 (some 65) (bts 38 127) (take_ofW HT_.out HW_.out (by kernel_rfl)) hHeld ?_
     refine ta 7 (some 69) (bts 38 255) (take_ofW HT_.out HW_.out (by kernel_rfl)) hHeld ?_
     refine pu 8 (some 70) (bts 38 511) (any_of HT_.out (by kernel_rfl)) ?_
     refine pu 9 (some 71) (bts 38 1023) (any_of HT_.out (by kernel_rfl)) ?_
     refine pu 10 (some 72) (bts 38 2047) (any_of HT_.out (by kernel_rfl)) ?_
     refine pu 11 (some 73) (bts 38 4095) (any_of HT_.out (by kernel_rfl)) ?_
     refine pu 12 (some 74) (bts 38 8191) (any_of HT_.out (by kernel_rfl)) ?_
     refine pu 13 (some 75) (bts 38 16383) (any_of HT_.out (by kernel_rfl)) ?_
     refine pu 15 (some 77) (bts 38 49151) (any_of HT_.out (by kernel_rfl)) ?_
     refine pu 16 (some 78) (bts 38 114687) (any_of HT_.out (by kernel_rfl)) ?_
     refine pu 17 (some 79) (bts 38 245759) (any_of HT_.out (by kernel_rfl)) ?_
     refine ta 14 (some 76) (bts 38 262143) (take_ofW HT_.out HW_.out (by kernel_rfl)) hHeld ?_
     refine ta 18 (some 80) (bts 38 524287) (take_ofW HT_.out HW_.out (by kernel_rfl)) hHeld ?_
     refine pu 19 (some 81) (bts 38 1048575) (any_of HT_.out (by kernel_rfl)) ?_
     refine pu 20 (some 82) (bts 38 2097151) (any_of HT_.out (by kernel_rfl)) ?_
     refine ta 21 (some 83) (bts 38 4194303) (take_ofW HT_.out HW_.out (by kernel_rfl)) hHeld ?_
     refine pu 22 (some 84) (bts 38 8388607) (any_of HT_.out (by kernel_rfl)) ?_
     refine pu 23 (some 85) (bts 38 16777215) (any_of HT_.out (by kernel_rfl)) ?_
     refine pu 24 (some 86) (bts 38 33554431) (any_of HT_.out (by kernel_rfl)) ?_
     refine pn 25 (some 87) (bts 38 67108863) (any_of HT_.out (by kernel_rfl)) ?_
     refine pn 26 (some 88) (bts 38 134217727) (any_of HT_.out (by kernel_rfl)) ?_
     refine pn 27 (some 89) (bts 38 268435455) (any_of HT_.out (by kernel_rfl)) ?_
     refine pn 28 (some 90) (bts 38 536870911) (any_of HT_.out (by kernel_rfl)) ?_
     refine pn 29 (some 91) (bts 38 1073741823) (any_of HT_.out (by kernel_rfl)) ?_
     refine pn 30 (some 92) (bts 38 2147483647) (any_of HT_.out (by kernel_rfl)) ?_
     refine pn 31 (some 93) (bts 38 4294967295) (any_of HT_.out (by kernel_rfl)) ?_
     refine pn 32 (some 94) (bts 38 8589934591) (any_of HT_.out (by kernel_rfl)) ?_
     refine pn 33 (some 95) (bts 38 17179869183) (any_of HT_.out (by kernel_rfl)) ?_
     refine pn 34 (some 96) (bts 38 34359738367) (any_of HT_.out (by kernel_rfl)) ?_
     refine pn 35 (some 97) (bts 38 68719476735) (any_of HT_.out (by kernel_rfl)) ?_
     refine pn 36 (some 98) (bts 38 137438953471) (any_of HT_.out (by kernel_rfl)) ?_
     refine pu 37 (some 99) (bts 38 274877906943) (any_of HT_.out (by kernel_rfl)) ?_
     refine done_ (done_of HT_.out (by kernel_rfl)) ?_
     try go_wp2
     go_meet
     case rel => exact ⟨_, (false), sz, H', ⟨oz⟩, ⟨bk BK624.out⟩, ⟨bk BK719.out⟩, ⟨hz HI0.out⟩, ⟨kz HK.out⟩, ⟨bz HB.out⟩⟩
    rw [if_neg c72] at H
    exact absurd H (by simp)
   rw [if_neg c71] at H
   have c71b0 : decide (t714 < (s0_0.length : Int)) = false := decide_eq_false c71
   clear c71
   (first | rw [c71b0] | (simp only [i64_w, i32_w]; rw [c71b0]) | skip)
   have H' := am H
   clear H
   try go_wp2
   have n0_ : Aside0 ((((((w52.setCell ⟨gb719, 0, none⟩ (.int .i64 t708)).setCell ⟨gb719, 1, none⟩ (.int .i64 t709)).setCell ⟨gb719, 2, none⟩ (.int .i64 t710)).setCell ⟨gb719, 3, none⟩ (.string t711)).setCell ⟨gb719, 4, none⟩ (.int .i64 t712)).heap[gb624]? = some (.cells #[.int .i64 0, .int .i64 0, .int .i64 0, .int .i64 0, .string (⟨#[]⟩ : ByteArray), .int .i64 0, .string (⟨#[]⟩ : ByteArray), .slice none 0 0] 31 (0, 0))) := ⟨bp BK624.out⟩
   have n1_ : Aside0 ((((((w52.setCell ⟨gb719, 0, none⟩ (.int .i64 t708)).setCell ⟨gb719, 1, none⟩ (.int .i64 t709)).setCell ⟨gb719, 2, none⟩ (.int .i64 t710)).setCell ⟨gb719, 3, none⟩ (.string t711)).setCell ⟨gb719, 4, none⟩ (.int .i64 t712)).heap[gb719]? = some (.cells #[.int .i64 t708, .int .i64 t709, .int .i64 t710, .string t711, .int .i64 t712] 25 (0, 0))) := ⟨bp BK719.out⟩
   have n2_ : Aside0 (IsS63 w0 (((((w52.setCell ⟨gb719, 0, none⟩ (.int .i64 t708)).setCell ⟨gb719, 1, none⟩ (.int .i64 t709)).setCell ⟨gb719, 2, none⟩ (.int .i64 t710)).setCell ⟨gb719, 3, none⟩ (.string t711)).setCell ⟨gb719, 4, none⟩ (.int .i64 t712)) g s0_0 t714 t715 t716 t717 t718) := ⟨hz HI0.out⟩
   have n3_ : Aside0 (KeepBut w (((((w52.setCell ⟨gb719, 0, none⟩ (.int .i64 t708)).setCell ⟨gb719, 1, none⟩ (.int .i64 t709)).setCell ⟨gb719, 2, none⟩ (.int .i64 t710)).setCell ⟨gb719, 3, none⟩ (.string t711)).setCell ⟨gb719, 4, none⟩ (.int .i64 t712)) g none) := ⟨kz HK.out⟩
   have n4_ : Aside0 (Below w0.heap.size w0 (((((w52.setCell ⟨gb719, 0, none⟩ (.int .i64 t708)).setCell ⟨gb719, 1, none⟩ (.int .i64 t709)).setCell ⟨gb719, 2, none⟩ (.int .i64 t710)).setCell ⟨gb719, 3, none⟩ (.string t711)).setCell ⟨gb719, 4, none⟩ (.int .i64 t712))) := ⟨bz HB.out⟩
   (try clear BK624)
   (try clear BK719)
   (try clear HI0)
   (try clear HK)
   (try clear HB)
   generalize (((((w52.setCell ⟨gb719, 0, none⟩ (.int .i64 t708)).setCell ⟨gb719, 1, none⟩ (.int .i64 t709)).setCell ⟨gb719, 2, none⟩ (.int .i64 t710)).setCell ⟨gb719, 3, none⟩ (.string t711)).setCell ⟨gb719, 4, none⟩ (.int .i64 t712)) = w82 at n0_ n1_ n2_ n3_ n4_ ⊢
   have BK624 := n0_
   have BK719 := n1_
   have HI0 := n2_
   have HK := n3_
   have HB := n4_
   clear n0_ n1_ n2_ n3_ n4_
   replace BK624 := am (blk_drew BK624.out)
   replace BK719 := am (blk_drew BK719.out)
   replace HI0 := am (IsS63.drew HI0.out)
   replace HK := am (keep_drew HK.out)
   replace HB := am (below_drew1 HB.out)
   obtain ⟨ASz84_0, cSz84_0, HSz84_0, Z84_0, Z84_1, Z84_2, Z84_3, Z84_4, Z84_5, F84_1, F84_2, F84_3, F84_4, F84_5⟩ := open63 HI0.out
   refine start_ (n := 38) (S := fun w' => w'.cell? ⟨g, 0, none⟩ = some (.slice ASz84_0 s0_0.length cSz84_0) ∧ w'.cell? ⟨g, 1, none⟩ = some (.int .i64 t714) ∧ w'.cell? ⟨g, 2, none⟩ = some (.int .i64 t715) ∧ w'.cell? ⟨g, 3, none⟩ = some (.int .i64 t716) ∧ w'.cell? ⟨g, 4, none⟩ = some (.int .i64 t717) ∧ w'.cell? ⟨g, 5, none⟩ = some (.int .i64 t718)) (ds := []) (bts0 38) (by kernel_rfl) rfl rfl ⟨Z84_0, Z84_1, Z84_2, Z84_3, Z84_4, Z84_5⟩ (fun hHeld => ?_); refine with_tabW expr_Parser_prefix.tab19 expr_Parser_prefix.bits19 (fun HT_ HW_ => ?_)
   generalize w82.drew = w83 at BK624 BK719 HI0 HK HB hHeld ⊢
   refine pu 0 (some 62) (bts 38 1) (any_of HT_.out (by kernel_rfl)) ?_
   refine pu 1 (some 63) (bts 38 3) (any_of HT_.out (by kernel_rfl)) ?_
   refine pu 2 (some 64) (bts 38 7) (any_of HT_.out (by kernel_rfl)) ?_
   refine pu 4 (some 66) (bts 38 23) (any_of HT_.out (by kernel_rfl)) ?_
   refine pu 5 (some 67) (bts 38 55) (any_of HT_.out (by kernel_rfl)) ?_
   refine pu 6 (some 68) (bts 38 119) (any_of HT_.out (by kernel_rfl)) ?_
   refine ta 3 (some 65) (bts 38 127) (take_ofW HT_.out HW_.out (by kernel_rfl)) hHeld ?_
   refine ta 7 (some 69) (bts 38 255) (take_ofW HT_.out HW_.out (by kernel_rfl)) hHeld ?_
   refine pu 8 (some 70) (bts 38 511) (any_of HT_.out (by kernel_rfl)) ?_
   refine pu 9 (some 71) (bts 38 1023) (any_of HT_.out (by kernel_rfl)) ?_
   refine pu 10 (some 72) (bts 38 2047) (any_of HT_.out (by kernel_rfl)) ?_
   refine pn 11 (some 73) (bts 38 4095) (any_of HT_.out (by kernel_rfl)) ?_
   refine pn 12 (some 74) (bts 38 8191) (any_of HT_.out (by kernel_rfl)) ?_
   refine pn 13 (some 75) (bts 38 16383) (any_of HT_.out (by kernel_rfl)) ?_
   refine pn 14 (some 76) (bts 38 32767) (any_of HT_.out (by kernel_rfl)) ?_
   refine pn 15 (some 77) (bts 38 65535) (any_of HT_.out (by kernel_rfl)) ?_
   refine pn 16 (some 78) (bts 38 131071) (any_of HT_.out (by kernel_rfl)) ?_
   refine pn 17 (some 79) (bts 38 262143) (any_of HT_.out (by kernel_rfl)) ?_
   refine pn 18 (some 80) (bts 38 524287) (any_of HT_.out (by kernel_rfl)) ?_
   refine pn 19 (some 81) (bts 38 1048575) (any_of HT_.out (by kernel_rfl)) ?_
   refine pn 20 (some 82) (bts 38 2097151) (any_of HT_.out (by kernel_rfl)) ?_
   refine pn 21 (some 83) (bts 38 4194303) (any_of HT_.out (by kernel_rfl)) ?_
   refine pn 22 (some 84) (bts 38 8388607) (any_of HT_.out (by kernel_rfl)) ?_
   refine pu 23 (some 85) (bts 38 16777215) (any_of HT_.out (by kernel_rfl)) ?_
   refine pu 24 (some 86) (bts 38 33554431) (any_of HT_.out (by kernel_rfl)) ?_
   refine pn 25 (some 87) (bts 38 67108863) (any_of HT_.out (by kernel_rfl)) ?_
   refine pn 26 (some 88) (bts 38 134217727) (any_of HT_.out (by kernel_rfl)) ?_
   refine pn 27 (some 89) (bts 38 268435455) (any_of HT_.out (by kernel_rfl)) ?_
   refine pn 28 (some 90) (bts 38 536870911) (any_of HT_.out (by kernel_rfl)) ?_
   refine pn 29 (some 91) (bts 38 1073741823) (any_of HT_.out (by kernel_rfl)) ?_
   refine pn 30 (some 92) (bts 38 2147483647) (any_of HT_.out (by kernel_rfl)) ?_
   refine pn 31 (some 93) (bts 38 4294967295) (any_of HT_.out (by kernel_rfl)) ?_
   refine pn 32 (some 94) (bts 38 8589934591) (any_of HT_.out (by kernel_rfl)) ?_
   refine pn 33 (some 95) (bts 38 17179869183) (any_of HT_.out (by kernel_rfl)) ?_
   refine pn 34 (some 96) (bts 38 34359738367) (any_of HT_.out (by kernel_rfl)) ?_
   refine pn 35 (some 97) (bts 38 68719476735) (any_of HT_.out (by kernel_rfl)) ?_
   refine pn 36 (some 98) (bts 38 137438953471) (any_of HT_.out (by kernel_rfl)) ?_
   refine pu 37 (some 99) (bts 38 274877906943) (any_of HT_.out (by kernel_rfl)) ?_
   refine done_ (done_of HT_.out (by kernel_rfl)) ?_
   try go_wp2
   go_meet
   case rel => exact ⟨_, (false), sz, H', ⟨oz⟩, ⟨bk BK624.out⟩, ⟨bk BK719.out⟩, ⟨hz HI0.out⟩, ⟨kz HK.out⟩, ⟨bz HB.out⟩⟩
  case rest =>
   clear HC70
   skip
   obtain ⟨kq, x99_69, rfl, HA, HJ69, BK624, BK719, HI0, HK, HB⟩ := hcut
   cases kq with
   | zero => exact absurd HA.out (by simp [expr_Parser_prefix.j0])
   | succ kj69 =>
    have H := HA.out
    clear HA
    simp only [expr_Parser_prefix.j0] at H
    by_cases c85 : x99_69 = true
    ·subst c85
     replace H := ift H
     replace H := obe13 H
     obtain ⟨t739, t740, t741, t742, t743, t744, t745, t746, t749, t750, t751, t752, t753, A86, H⟩ := H
     by_cases c87 : 0 ≤ t749
     ·rw [if_pos c87] at H
      have c87b0 : decide (0 ≤ t749) = true := decide_eq_true c87
      clear c87
      by_cases c88 : t749 < (s0_0.length : Int)
      ·rw [if_pos c88] at H
       have c88b0 : decide (t749 < (s0_0.length : Int)) = true := decide_eq_true c88
       clear c88
       simp only [Option.some.injEq, Prod.mk.injEq] at H
       obtain ⟨rfl, rfl, rfl, rfl, rfl, rfl, rfl, rfl, rfl, rfl, rfl, rfl, rfl⟩ := H
       try go_wp2_with (first | ((with_reducible refine gate_callee (f := 66) rfl ?_); refine gl_ (some 101) Tryz.func66 (by kernel_rfl) #[.pointer (some ⟨g, 0, none⟩), .int .i64 2, .slice none 0 0] rfl ?_; (refine (expr_Parser_make.calls g s0_0 t714 t715 t716 t717 t718 2 (fun k_ => False) _ _ ([] : List (S31)) t739 t740 t741 t742 t743 t744 t745 t746 t749 t750 t751 t752 t753 w0 _ ?side1 ?side2 ?side3 A86.out).mono ?_); (case side1 => exact hz HI0.out); (case side2 => exact bz HB.out); (case side3 => exact Kd.V_nil _ _ _ _ _); rintro e w89 ⟨v747, rfl, ho0, hi, hb, hk⟩; refine ⟨_, rfl, ?_⟩; have HO748 := am (Kd.V_lower (Kd.V_mono (ok' := fun k_ => (w.heap.size ≤ k_) ∧ k_ ≠ gb624 ∧ k_ ≠ gb719 ∧ k_ ≠ g) ho0 (fun k_ hk_ => ⟨Or.elim hk_ (fun hs_ => (hs_).elim) (fun hn_ => (Nat.le_trans (keep_size (w := w) (g := g) (row := none) (kz HK.out)) hn_)), Or.elim hk_ (fun hs_ => (hs_).elim) (fun hn_ => (Kd.freshB (bk BK624.out) k_ hn_)), Or.elim hk_ (fun hs_ => (hs_).elim) (fun hn_ => (Kd.freshB (bk BK719.out) k_ hn_)), Or.elim hk_ (fun hs_ => (hs_).elim) (fun hn_ => (IsS63.fresh (hz HI0.out) k_ hn_))⟩)) (keep_size (w := w) (g := g) (row := none) (kz HK.out))); replace BK624 := am (KeepBut.blk hk (bk BK624.out) NB624_0.out (by simp)); replace BK719 := am (KeepBut.blk hk (bk BK719.out) NB719_0.out (by simp)); replace HK := am (KeepBut.trans (kz HK.out) hk (.inl rfl)); replace HB := am (hb); replace HI0 := am (hi); clear hb hk hi ho0) | ((with_reducible refine gate_dst (N := 10) rfl ?_); refine bev (#[.int .i64 0, .int .i64 0, .int .i64 0, .int .i64 0, .string (⟨#[]⟩ : ByteArray), .int .i64 0, .string (⟨#[]⟩ : ByteArray), .slice none 0 0]) 31 ?_; intro gb754 hg w90 hbox hb; replace HO748 := am (Kd.V_below (Kd.V_elderB (vv HO748.out) gb754 (Nat.le_of_eq hg.symm)) hb); replace HB := sb HB hb; have BK754 := am (hbox); have GW754 := gk hg HK; have GE754 := am (Nat.le_trans HW0.out GW754.out); replace HK := am (KeepBut.trans (kz HK.out) (KeepBut.of_below hb g none) (.inl rfl)); have NB624_754 := na hg BK624; have NB754_624 := nb hg BK624; replace BK624 := kb BK624 hb; have NB719_754 := na hg BK719; have NB754_719 := nb hg BK719; replace BK719 := kb BK719 hb; have NB0_754 := am ((nlt (a := g) hg (IsS63.lt (show IsS63 w0 _ g s0_0 t749 t750 t751 t752 t753 from hz HI0.out)))); have NB754_0 := am ((ngt (a := g) hg (IsS63.lt (show IsS63 w0 _ g s0_0 t749 t750 t751 t752 t753 from hz HI0.out)))); replace HI0 := am (IsS63.below (hz HI0.out) hb); clear hb hbox hg; have hnb91 := NB754_624.out; have hnc91 := NB624_754.out; have hnb92 := NB754_719.out; have hnc92 := NB719_754.out; have hnb93 := NB754_0.out; have hnc93 := NB0_754.out; obtain ⟨Z94_0, Z94_1, Z94_2, Z94_3, Z94_4, Z94_5, Z94_6, Z94_7, F94_0, F94_1, F94_2, F94_3, F94_4, F94_5, F94_6, F94_7⟩ := cz8 BK754.out; obtain ⟨Ao95, co95, eo95⟩ := Kd.V_slice HO748.out; subst eo95))
       have n0_ : Aside0 (Kd.V k31 31 ((((((((w90.setCell ⟨gb754, 0, none⟩ (.int .i64 t739)).setCell ⟨gb754, 1, none⟩ (.int .i64 t740)).setCell ⟨gb754, 2, none⟩ (.int .i64 t741)).setCell ⟨gb754, 3, none⟩ (.int .i64 t742)).setCell ⟨gb754, 4, none⟩ (.string t743)).setCell ⟨gb754, 5, none⟩ (.int .i64 t744)).setCell ⟨gb754, 6, none⟩ (.string t745)).setCell ⟨gb754, 7, none⟩ (.slice Ao95 t746.length co95)) w.heap.size (fun k_ => (w.heap.size ≤ k_) ∧ k_ ≠ gb624 ∧ k_ ≠ gb719 ∧ k_ ≠ g ∧ k_ ≠ gb754) (.slice Ao95 t746.length co95) t746) := ⟨vfV HO748.out⟩
       have n1_ : Aside0 (((((((((w90.setCell ⟨gb754, 0, none⟩ (.int .i64 t739)).setCell ⟨gb754, 1, none⟩ (.int .i64 t740)).setCell ⟨gb754, 2, none⟩ (.int .i64 t741)).setCell ⟨gb754, 3, none⟩ (.int .i64 t742)).setCell ⟨gb754, 4, none⟩ (.string t743)).setCell ⟨gb754, 5, none⟩ (.int .i64 t744)).setCell ⟨gb754, 6, none⟩ (.string t745)).setCell ⟨gb754, 7, none⟩ (.slice Ao95 t746.length co95)).heap[gb624]? = some (.cells #[.int .i64 0, .int .i64 0, .int .i64 0, .int .i64 0, .string (⟨#[]⟩ : ByteArray), .int .i64 0, .string (⟨#[]⟩ : ByteArray), .slice none 0 0] 31 (0, 0))) := ⟨bp BK624.out⟩
       have n2_ : Aside0 (((((((((w90.setCell ⟨gb754, 0, none⟩ (.int .i64 t739)).setCell ⟨gb754, 1, none⟩ (.int .i64 t740)).setCell ⟨gb754, 2, none⟩ (.int .i64 t741)).setCell ⟨gb754, 3, none⟩ (.int .i64 t742)).setCell ⟨gb754, 4, none⟩ (.string t743)).setCell ⟨gb754, 5, none⟩ (.int .i64 t744)).setCell ⟨gb754, 6, none⟩ (.string t745)).setCell ⟨gb754, 7, none⟩ (.slice Ao95 t746.length co95)).heap[gb719]? = some (.cells #[.int .i64 t708, .int .i64 t709, .int .i64 t710, .string t711, .int .i64 t712] 25 (0, 0))) := ⟨bp BK719.out⟩
       have n3_ : Aside0 (((((((((w90.setCell ⟨gb754, 0, none⟩ (.int .i64 t739)).setCell ⟨gb754, 1, none⟩ (.int .i64 t740)).setCell ⟨gb754, 2, none⟩ (.int .i64 t741)).setCell ⟨gb754, 3, none⟩ (.int .i64 t742)).setCell ⟨gb754, 4, none⟩ (.string t743)).setCell ⟨gb754, 5, none⟩ (.int .i64 t744)).setCell ⟨gb754, 6, none⟩ (.string t745)).setCell ⟨gb754, 7, none⟩ (.slice Ao95 t746.length co95)).heap[gb754]? = some (.cells #[.int .i64 t739, .int .i64 t740, .int .i64 t741, .int .i64 t742, .string t743, .int .i64 t744, .string t745, .slice Ao95 t746.length co95] 31 (0, 0))) := ⟨bp BK754.out⟩
       have n4_ : Aside0 (IsS63 w0 ((((((((w90.setCell ⟨gb754, 0, none⟩ (.int .i64 t739)).setCell ⟨gb754, 1, none⟩ (.int .i64 t740)).setCell ⟨gb754, 2, none⟩ (.int .i64 t741)).setCell ⟨gb754, 3, none⟩ (.int .i64 t742)).setCell ⟨gb754, 4, none⟩ (.string t743)).setCell ⟨gb754, 5, none⟩ (.int .i64 t744)).setCell ⟨gb754, 6, none⟩ (.string t745)).setCell ⟨gb754, 7, none⟩ (.slice Ao95 t746.length co95)) g s0_0 t749 t750 t751 t752 t753) := ⟨hz HI0.out⟩
       have n5_ : Aside0 (KeepBut w ((((((((w90.setCell ⟨gb754, 0, none⟩ (.int .i64 t739)).setCell ⟨gb754, 1, none⟩ (.int .i64 t740)).setCell ⟨gb754, 2, none⟩ (.int .i64 t741)).setCell ⟨gb754, 3, none⟩ (.int .i64 t742)).setCell ⟨gb754, 4, none⟩ (.string t743)).setCell ⟨gb754, 5, none⟩ (.int .i64 t744)).setCell ⟨gb754, 6, none⟩ (.string t745)).setCell ⟨gb754, 7, none⟩ (.slice Ao95 t746.length co95)) g none) := ⟨kz HK.out⟩
       have n6_ : Aside0 (Below w0.heap.size w0 ((((((((w90.setCell ⟨gb754, 0, none⟩ (.int .i64 t739)).setCell ⟨gb754, 1, none⟩ (.int .i64 t740)).setCell ⟨gb754, 2, none⟩ (.int .i64 t741)).setCell ⟨gb754, 3, none⟩ (.int .i64 t742)).setCell ⟨gb754, 4, none⟩ (.string t743)).setCell ⟨gb754, 5, none⟩ (.int .i64 t744)).setCell ⟨gb754, 6, none⟩ (.string t745)).setCell ⟨gb754, 7, none⟩ (.slice Ao95 t746.length co95))) := ⟨bz HB.out⟩
       (try clear HO748)
       (try clear BK624)
       (try clear BK719)
       (try clear BK754)
       (try clear HI0)
       (try clear HK)
       (try clear HB)
       generalize ((((((((w90.setCell ⟨gb754, 0, none⟩ (.int .i64 t739)).setCell ⟨gb754, 1, none⟩ (.int .i64 t740)).setCell ⟨gb754, 2, none⟩ (.int .i64 t741)).setCell ⟨gb754, 3, none⟩ (.int .i64 t742)).setCell ⟨gb754, 4, none⟩ (.string t743)).setCell ⟨gb754, 5, none⟩ (.int .i64 t744)).setCell ⟨gb754, 6, none⟩ (.string t745)).setCell ⟨gb754, 7, none⟩ (.slice Ao95 t746.length co95)) = w96 at n0_ n1_ n2_ n3_ n4_ n5_ n6_ ⊢
       have HO748 := n0_
       have BK624 := n1_
       have BK719 := n2_
       have BK754 := n3_
       have HI0 := n4_
       have HK := n5_
       have HB := n6_
       clear n0_ n1_ n2_ n3_ n4_ n5_ n6_
       replace HO748 := am (Kd.V_drew HO748.out)
       replace BK624 := am (blk_drew BK624.out)
       replace BK719 := am (blk_drew BK719.out)
       replace BK754 := am (blk_drew BK754.out)
       replace HI0 := am (IsS63.drew HI0.out)
       replace HK := am (keep_drew HK.out)
       replace HB := am (below_drew1 HB.out)
       obtain ⟨ASz98_0, cSz98_0, HSz98_0, Z98_0, Z98_1, Z98_2, Z98_3, Z98_4, Z98_5, F98_1, F98_2, F98_3, F98_4, F98_5⟩ := open63 HI0.out
       have p755 : 0 ≤ (t749 : Int) := of_decide_eq_true tz
       have q755 : t749 < (s0_0.length : Int) := of_decide_eq_true tz
       obtain ⟨ad755, e755, hx755_0, hx755_1, hx755_2, hx755_3, hx755_4, hx755_5⟩ := at_T136 HSz98_0 t749 p755 q755
       have hw755_5 := hx755_5
       have hw755_4 := hx755_4
       have hw755_3 := hx755_3
       have hw755_2 := hx755_2
       have hw755_1 := hx755_1
       have hw755_0 := hx755_0
       cases e755
       replace hx755_0 := pw_cell_below HB.out hx755_0
       replace hx755_1 := pw_cell_below HB.out hx755_1
       replace hx755_2 := pw_cell_below HB.out hx755_2
       replace hx755_3 := pw_cell_below HB.out hx755_3
       replace hx755_4 := pw_cell_below HB.out hx755_4
       replace hx755_5 := pw_cell_below HB.out hx755_5
       replace p755 := eq_true p755
       replace q755 := eq_true q755
       refine start_ (n := 13) (S := fun w' => w'.cell? ⟨g, 0, none⟩ = some (.slice (some ad755) s0_0.length cSz98_0) ∧ w'.cell? ⟨g, 1, none⟩ = some (.int .i64 t749) ∧ w'.cell? ⟨g, 2, none⟩ = some (.int .i64 t750) ∧ w'.cell? ⟨g, 3, none⟩ = some (.int .i64 t751) ∧ w'.cell? ⟨g, 4, none⟩ = some (.int .i64 t752) ∧ w'.cell? ⟨g, 5, none⟩ = some (.int .i64 t753) ∧ w'.cell? (ad755.add ((t749).toNat * 6)) = some (.int .i64 ((rd_T136 s0_0 t749).f0)) ∧ w'.cell? ⟨(ad755.add ((t749).toNat * 6)).block, (ad755.add ((t749).toNat * 6)).off + 1, none⟩ = some (.int .i64 ((rd_T136 s0_0 t749).f1)) ∧ w'.cell? ⟨(ad755.add ((t749).toNat * 6)).block, (ad755.add ((t749).toNat * 6)).off + 2, none⟩ = some (.string ((rd_T136 s0_0 t749).f2)) ∧ w'.cell? ⟨(ad755.add ((t749).toNat * 6)).block, (ad755.add ((t749).toNat * 6)).off + 3, none⟩ = some (.int .i64 ((rd_T136 s0_0 t749).f3.f0)) ∧ w'.cell? ⟨(ad755.add ((t749).toNat * 6)).block, (ad755.add ((t749).toNat * 6)).off + 4, none⟩ = some (.int .i64 ((rd_T136 s0_0 t749).f3.f1)) ∧ w'.cell? ⟨(ad755.add ((t749).toNat * 6)).block, (ad755.add ((t749).toNat * 6)).off + 5, none⟩ = some (.int .i64 ((rd_T136 s0_0 t749).f4))) (ds := []) (bts0 13) (by kernel_rfl) rfl rfl ⟨Z98_0, Z98_1, Z98_2, Z98_3, Z98_4, Z98_5, (hbw HB.out hw755_0), (hbw HB.out hw755_1), (hbw HB.out hw755_2), (hbw HB.out hw755_3), (hbw HB.out hw755_4), (hbw HB.out hw755_5)⟩ (fun hHeld => ?_); refine with_tabW expr_Parser_prefix.tab21 expr_Parser_prefix.bits21 (fun HT_ HW_ => ?_)
       generalize w96.drew = w97 at HO748 BK624 BK719 BK754 HI0 HK HB hx755_0 hx755_1 hx755_2 hx755_3 hx755_4 hx755_5 hHeld ⊢
       refine pu 0 (some 102) (bts 13 1) (any_of HT_.out (by kernel_rfl)) ?_
       refine pu 1 (some 103) (bts 13 3) (any_of HT_.out (by kernel_rfl)) ?_
       refine pu 2 (some 104) (bts 13 7) (any_of HT_.out (by kernel_rfl)) ?_
       refine pu 4 (some 106) (bts 13 23) (any_of HT_.out (by kernel_rfl)) ?_
       refine pu 5 (some 107) (bts 13 55) (any_of HT_.out (by kernel_rfl)) ?_
       refine pu 6 (some 108) (bts 13 119) (any_of HT_.out (by kernel_rfl)) ?_
       refine ta 3 (some 105) (bts 13 127) (take_ofW HT_.out HW_.out (by kernel_rfl)) hHeld ?_
       refine ta 7 (some 109) (bts 13 255) (take_ofW HT_.out HW_.out (by kernel_rfl)) hHeld ?_
       refine pu 8 (some 110) (bts 13 511) (any_of HT_.out (by kernel_rfl)) ?_
       refine pu 9 (some 111) (bts 13 1023) (any_of HT_.out (by kernel_rfl)) ?_
       refine ta 10 (some 112) (bts 13 2047) (take_ofW HT_.out HW_.out (by kernel_rfl)) hHeld ?_
       refine pu 11 (some 113) (bts 13 4095) (any_of HT_.out (by kernel_rfl)) ?_
       refine one_ (i := 12) (N := none) (bts 13 8191) rfl rfl (one_of HT_.out (by kernel_rfl)) (by decide) (fun K hK => ?_)
       have hs99 : w97.cell? ⟨gb754, 6, none⟩ = some (.string t745) := (blk_cell BK754.out 6).trans rfl
       have hfs99 := blk_frozen BK754.out 6
       have hns99_0 := NB624_754.out
       have hns99_1 := NB719_754.out
       have hms99_0 := NB754_624.out
       have hms99_1 := NB754_719.out
       refine skip_ (w1 := ?_) (by rfl) rfl ?_ ?_
       rotate_left
       ·go_simp
        rfl
       refine hK.out _ _ ⟨(cf hHeld.1), (cf hHeld.2.1), (cf hHeld.2.2.1), (cf hHeld.2.2.2.1), (cf hHeld.2.2.2.2.1), (cf hHeld.2.2.2.2.2.1), (cg (nlx hw755_0 HL.out GW754.out) hHeld.2.2.2.2.2.2.1), (cg (nlx hw755_1 HL.out GW754.out) hHeld.2.2.2.2.2.2.2.1), (cg (nlx hw755_2 HL.out GW754.out) hHeld.2.2.2.2.2.2.2.2.1), (cg (nlx hw755_3 HL.out GW754.out) hHeld.2.2.2.2.2.2.2.2.2.1), (cg (nlx hw755_4 HL.out GW754.out) hHeld.2.2.2.2.2.2.2.2.2.2.1), (cg (nlx hw755_5 HL.out GW754.out) hHeld.2.2.2.2.2.2.2.2.2.2.2)⟩ (fun hHeld => ?_)
       clear hK K
       refine done_ (done_of HT_.out (by kernel_rfl)) ?_
       obtain ⟨ASz100_0, cSz100_0, HSz100_0, Z100_0, Z100_1, Z100_2, Z100_3, Z100_4, Z100_5, F100_1, F100_2, F100_3, F100_4, F100_5⟩ := open63 HI0.out
       obtain ⟨Z101_0, Z101_1, Z101_2, Z101_3, Z101_4, Z101_5, Z101_6, Z101_7, F101_0, F101_1, F101_2, F101_3, F101_4, F101_5, F101_6, F101_7⟩ := cz8 BK754.out
       have hnb102 := NB624_719.out
       have hnc102 := NB719_624.out
       have hnb103 := NB624_0.out
       have hnc103 := NB0_624.out
       obtain ⟨Z104_0, Z104_1, Z104_2, Z104_3, Z104_4, Z104_5, Z104_6, Z104_7, F104_0, F104_1, F104_2, F104_3, F104_4, F104_5, F104_6, F104_7⟩ := cz8 BK624.out
       try go_wp2
       refine bodyPost_ret (results_cell_row rfl _ _ gb624 31 #[.int .i64 t739, .int .i64 t740, .int .i64 t741, .int .i64 t742, .string t743, .int .i64 t744, .string ((rd_T136 s0_0 t749).f2), .slice Ao95 t746.length co95] (0, 0) _ rfl (bp BK624.out) Tryz.underlying31 rfl (by kernel_rfl)) rfl ?_
       exact ⟨_, az, by (with_reducible repeat (first | apply Kd.V_alloc | apply Kd.V_drewN | apply Kd.V_drew)); exact Kd.V_mono (Kd.V_far (p := ⟨gb624, 7, none⟩) (Kd.V_far (p := ⟨gb624, 6, none⟩) (Kd.V_far (p := ⟨gb624, 5, none⟩) (Kd.V_far (p := ⟨gb624, 4, none⟩) (Kd.V_far (p := ⟨gb624, 3, none⟩) (Kd.V_far (p := ⟨gb624, 2, none⟩) (Kd.V_far (p := ⟨gb624, 1, none⟩) (Kd.V_far (p := ⟨gb624, 0, none⟩) (Kd.V_far (p := ⟨g, 1, none⟩) (Kd.V_far (p := ⟨gb754, 6, none⟩) (Kd.V_mono (Kd.V_mono (Kd.V_mono HO748.out (fun k_ hk => (⟨hk, hk.2.2.2.2⟩ : _ ∧ k_ ≠ gb754))) (fun k_ hk => (⟨hk, hk.1.2.2.2.1⟩ : _ ∧ k_ ≠ g))) (fun k_ hk => (⟨hk, hk.1.1.2.1⟩ : _ ∧ k_ ≠ gb624))) (fun _ hk => hk.1.1.2) (.string ((rd_T136 s0_0 t749).f2))) (fun _ hk => hk.1.2) (.int .i64 (wrap64 (t749 + 1)))) (fun _ hk => hk.2) (.int .i64 t739)) (fun _ hk => hk.2) (.int .i64 t740)) (fun _ hk => hk.2) (.int .i64 t741)) (fun _ hk => hk.2) (.int .i64 t742)) (fun _ hk => hk.2) (.string t743)) (fun _ hk => hk.2) (.int .i64 t744)) (fun _ hk => hk.2) (.string ((rd_T136 s0_0 t749).f2))) (fun _ hk => hk.2) (.slice Ao95 t746.length co95)) (fun _ hk => hk.1.1.1.1), hz HI0.out, bz HB.out, kz HK.out⟩
      rw [if_neg c88] at H
      exact absurd H (by simp)
     rw [if_neg c87] at H
     exact absurd H (by simp)
    replace c85 := Bool.eq_false_iff.mpr c85
    subst c85
    replace H := iff_ H
    exact absurd H (by simp)
 rw [if_neg c3] at H
 exact absurd H (by simp)
end Go.Proofs.YtgkemhgihbfmmaaGreatDoor.PA
end
