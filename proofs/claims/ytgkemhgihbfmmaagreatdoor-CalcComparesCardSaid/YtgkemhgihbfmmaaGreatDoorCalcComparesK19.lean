/- Part 20 of the proof for CalcCompares: functions of the program as plain Lean functions, their calls, and what they come to. -/
import Derived.Deep.LoopGhost
import Derived.Test.YtgkemhgihbfmmaaGreatDoorCalcComparesK18
import Derived.Test.YtgkemhgihbfmmaaGreatDoorCalcComparesK17
set_option linter.unusedVariables false
set_option linter.unusedSimpArgs false
section
namespace Go.Proofs.YtgkemhgihbfmmaaGreatDoor.PA
open Go.RowKit Go.Proofs.YtgkemhgihbfmmaaGreatDoorW.PrintWords Go.Proofs.YtgkemhgihbfmmaaGreatDoorW.PrintLast Go.Proofs.YtgkemhgihbfmmaaGreatDoorW.PrintMore
attribute [local go_sem] max2_int min2_int max_two min_two max_three min_three max_four min_four isSome_set str_gtr
set_option linter.unusedVariables false
set_option linter.unusedSimpArgs false
mutual
def expr_names.j0 : Nat → List ByteArray → Int → Int → Int → Int → ByteArray → Int → ByteArray → List (S31) → Option (List ByteArray)
 | 0, _, _, _, _, _, _, _, _, _ => none
 | k + 1, x3, x236000, x236001, x236002, x236003, x236004, x236005, x236006, x236007 => expr_names.l0 k x3 x236007 (x236007.length : Int) 0
def expr_names.l0 : Nat → List ByteArray → List (S31) → Int → Int → Option (List ByteArray)
 | 0, _, _, _, _ => none
 | k + 1, x3, x15, x16, x17 => if x17 < x16 then (if 0 ≤ x17 then (if x17 < (x15.length : Int) then ((expr_names.f k ((rd_T31 x15 x17).f0) ((rd_T31 x15 x17).f1.f0) ((rd_T31 x15 x17).f1.f1.f0) ((rd_T31 x15 x17).f1.f1.f1) ((rd_T31 x15 x17).f1.f2) ((rd_T31 x15 x17).f1.f3) ((rd_T31 x15 x17).f2) ((rd_T31 x15 x17).f3)).bind fun t241 => (if x3.length + t241.length < 8796093022208 then (expr_names.l0 k (x3 ++ t241) x15 x16 (wrap64 (x17 + 1))) else (none))) else (none)) else (none)) else (some x3)
def expr_names.f : Nat → Int → Int → Int → Int → ByteArray → Int → ByteArray → List (S31) → Option (List ByteArray)
 | 0, _, _, _, _, _, _, _, _ => none
 | k + 1, a0_0, a0_1, a0_2, a0_3, a0_4, a0_5, a0_6, l0_7 => if a0_0 = 2 then (if ([] : List ByteArray).length < 8796093022208 then (expr_names.j0 k (([] : List ByteArray) ++ [a0_6]) a0_0 a0_1 a0_2 a0_3 a0_4 a0_5 a0_6 l0_7) else (none)) else (expr_names.j0 k ([] : List ByteArray) a0_0 a0_1 a0_2 a0_3 a0_4 a0_5 a0_6 l0_7)
end
theorem expr_names.mono_l : ∀ k, (∀ y0 y1 y2 y3 y4 y5 y6 y7, LeO (expr_names.f k y0 y1 y2 y3 y4 y5 y6 y7) (expr_names.f (k + 1) y0 y1 y2 y3 y4 y5 y6 y7)) ∧ (∀ y0 y1 y2 y3 y4 y5 y6 y7 y8, LeO (expr_names.j0 k y0 y1 y2 y3 y4 y5 y6 y7 y8) (expr_names.j0 (k + 1) y0 y1 y2 y3 y4 y5 y6 y7 y8)) ∧ (∀ y0 y1 y2 y3, LeO (expr_names.l0 k y0 y1 y2 y3) (expr_names.l0 (k + 1) y0 y1 y2 y3))
 | 0 => ⟨fun _ _ _ _ _ _ _ _ r h => by simp [expr_names.f] at h, fun _ _ _ _ _ _ _ _ _ r h => by simp [expr_names.j0] at h, fun _ _ _ _ r h => by simp [expr_names.l0] at h⟩
 | k + 1 => by
  obtain ⟨ih0, ih1, ih2⟩ := expr_names.mono_l k
  refine ⟨?_, ?_, ?_⟩
  ·intro y0 y1 y2 y3 y4 y5 y6 y7
   unfold expr_names.f
   exact lmo
  ·intro y0 y1 y2 y3 y4 y5 y6 y7 y8
   unfold expr_names.j0
   exact lmo
  intro y0 y1 y2 y3
  unfold expr_names.l0
  exact lmo
theorem expr_names.mono : ∀ a0 a1 a2 a3 a4 a5 a6 a7 k, LeO (expr_names.f k a0 a1 a2 a3 a4 a5 a6 a7) (expr_names.f (k + 1) a0 a1 a2 a3 a4 a5 a6 a7) := by
 intro a0 a1 a2 a3 a4 a5 a6 a7 k
 obtain ⟨ih0, ih1, ih2⟩ := expr_names.mono_l k
 exact ih0 a0 a1 a2 a3 a4 a5 a6 a7
set_option maxHeartbeats 8000000 in
set_option maxRecDepth 100000 in
theorem expr_names.calls (k : Nat) : ∀ (a0_0 a0_1 a0_2 a0_3 : Int) (a0_4 : ByteArray) (a0_5 : Int) (a0_6 : ByteArray) (A0_7 : Option Addr) (c0_7 : Nat) (l0_7 : List (S31)) (r : List ByteArray) (w : World) (hr0_7 : Kd.C k31 w A0_7 l0_7.length l0_7) (hc0_7 : l0_7.length ≤ c0_7) (h : expr_names.f k a0_0 a0_1 a0_2 a0_3 a0_4 a0_5 a0_6 l0_7 = some r),
  Calls Tryz.prog 72 #[.agg #[.int .i64 a0_0, .int .i64 a0_1, .int .i64 a0_2, .int .i64 a0_3, .string a0_4, .int .i64 a0_5, .string a0_6, .slice A0_7 l0_7.length c0_7]] w fun e w' => ∃ v0_ : Value, e = .returned (v0_) ∧ Kd.R Kd.string 9 w' w.heap.size (fun _ => True) v0_ r ∧ Below w.heap.size w w' := by
 induction k using Nat.strongRecOn with
 | _ k ih =>
 intro a0_0 a0_1 a0_2 a0_3 a0_4 a0_5 a0_6 A0_7 c0_7 l0_7 r w hr0_7 hc0_7 h
 cases k with
 | zero => exact absurd h (by simp [expr_names.f])
 | succ k =>
 simp only [expr_names.f] at h
 have hu31 := Tryz.underlying31
 have HR0_7 := am hr0_7
 have HC0_7 := am hc0_7
 clear hr0_7 hc0_7
 have HB := am (Below.refl w.heap.size w)
 have H : (if a0_0 = 2 then (if ([] : List ByteArray).length < 8796093022208 then (expr_names.j0 k (([] : List ByteArray) ++ [a0_6]) a0_0 a0_1 a0_2 a0_3 a0_4 a0_5 a0_6 l0_7) else (none)) else (expr_names.j0 k ([] : List ByteArray) a0_0 a0_1 a0_2 a0_3 a0_4 a0_5 a0_6 l0_7)) = some r := h
 clear h
 have HC2 := am H
 clear H
 go_enter Tryz.func72, Tryz.ntmps72
 go_upto_if 8 with (first | ((with_reducible refine gate_dst (N := 1) rfl ?_); refine bev (#[.int .i64 a0_0, .int .i64 a0_1, .int .i64 a0_2, .int .i64 a0_3, .string a0_4, .int .i64 a0_5, .string a0_6, .slice A0_7 l0_7.length c0_7]) 31 ?_; intro gb235 hg w3 hbox hb; have BK235 := am (hbox); have GW235 := gs hg HB; have GE235 := GW235; replace HB := sb HB hb; clear hb hbox hg; obtain ⟨Z4_0, Z4_1, Z4_2, Z4_3, Z4_4, Z4_5, Z4_6, Z4_7, F4_0, F4_1, F4_2, F4_3, F4_4, F4_5, F4_6, F4_7⟩ := cz8 BK235.out))
 (try simp only [Act.put, List.setIfInBounds_toArray, List.set_cons_zero, List.set_cons_succ])
 go_cut [3] (fun v3 wc => ∃ (kq : Nat) (x3_1 : List ByteArray), Aside0 (expr_names.j0 kq x3_1 a0_0 a0_1 a0_2 a0_3 a0_4 a0_5 a0_6 l0_7 = some r) ∧ Aside0 (kq ≤ k) ∧ Aside0 (Kd.R Kd.string 9 wc w.heap.size (fun _ => True) v3 x3_1) ∧ Aside0 (wc.heap[gb235]? = some (.cells #[.int .i64 a0_0, .int .i64 a0_1, .int .i64 a0_2, .int .i64 a0_3, .string a0_4, .int .i64 a0_5, .string a0_6, (.slice A0_7 l0_7.length c0_7)] 31 (0, 0))) ∧ Aside0 (Below w.heap.size w wc))
 case first =>
  have H := HC2.out
  clear HC2
  by_cases c5 : a0_0 = 2
  ·replace H := ipe c5 H
   obtain ⟨H, c5b0, c5b1⟩ := H
   clear c5
   (first | rw [c5b0] | (simp only [i64_w, i32_w]; rw [c5b0]) | skip)
   by_cases c6 : ([] : List ByteArray).length < 8796093022208
   ·rw [if_pos c6] at H
    have LMc6 := am c6
    clear c6
    obtain ⟨y236, hy236⟩ : ∃ y_ : List ByteArray, y_ = (([] : List ByteArray) ++ [a0_6]) := ⟨_, rfl⟩
    replace H : (expr_names.j0 k y236 a0_0 a0_1 a0_2 a0_3 a0_4 a0_5 a0_6 l0_7) = some r := by first | (rw [hy236]; with_reducible exact H) | (have H2_ := (Option.bind_some _ _).symm.trans H; rw [hy236]; with_reducible exact H2_) | (have H2_ := (Option.bind_some _ _).symm.trans H; with_reducible exact H2_) | with_reducible exact H | (rw [hy236]; exact H) | exact H
    have Ny236 := am hy236
    clear hy236
    have H' := am H
    clear H
    obtain ⟨Z7_0, Z7_1, Z7_2, Z7_3, Z7_4, Z7_5, Z7_6, Z7_7, F7_0, F7_1, F7_2, F7_3, F7_4, F7_5, F7_6, F7_7⟩ := cz8 BK235.out
    go_wp2_with (first | ((with_reducible refine gate_builtin (b := .append) (xs := #[.tmp 9, .tmp 12]) rfl ?_); at_builtin; refine Kd.R_append Kd.string (w0 := w) w.heap.size rfl (.tmp 9) (.tmp 12) 41 9 (.string ⟨#[]⟩) 16 rfl Tryz.underlying41 info9 rfl (by decide) (by omega) (.slice none 0 0) ([] : List ByteArray) a0_6 [.string a0_6] (fun _ => True) (fun _ => False) rfl rfl ?aP (fun _ hk => hk.elim) ?aF ?aO ?aB ?aS ?aL ?_; (case aP => exact rfl); (case aB => exact (bz HB.out)); (case aF => exact (fun _ _ => trivial)); (case aO => exact ((Kd.R_nil _ _ _ _ (fun _ => True)))); (case aS => exact (below_size (bz HB.out))); (case aL => have := LMc6.out; omega); intro v237 w8 ho hb hg hat; rw [← Ny236.out] at ho; replace BK235 := am (blk_grown (bk BK235.out) hg (by simp [Value.ownBlock])); replace HB := am (hb); have HO238 := am (ho); clear ho hb hg hat))
    go_meet
    case rel => exact ⟨_, (y236), H', ⟨oz⟩, ⟨rr HO238.out⟩, ⟨bk BK235.out⟩, ⟨bz HB.out⟩⟩
   rw [if_neg c6] at H
   exact absurd H (by simp)
  replace H := ine c5 H
  obtain ⟨H, c5b0, c5b1⟩ := H
  (first | rw [c5b0] | (simp only [i64_w, i32_w]; rw [c5b0]) | skip)
  have H' := am H
  clear H
  go_wp2
  go_meet
  case rel => exact ⟨_, (([] : List ByteArray)), H', ⟨oz⟩, ⟨by first | exact Kd.R_nil _ _ _ _ _ | exact Kd.N_nil _ _ _ _ _ | exact Kd.V_nil _ _ _ _ _ | exact Kd.Q_nil _ _ _ _ _ | exact Kd.S_nil _ _ _ _ _⟩, ⟨bk BK235.out⟩, ⟨bz HB.out⟩⟩
 case rest =>
  clear HC2
  try clear Z4_0; try clear Z4_1; try clear Z4_2; try clear Z4_3; try clear Z4_4; try clear Z4_5; try clear Z4_6; try clear Z4_7; try clear F4_0; try clear F4_1; try clear F4_2; try clear F4_3; try clear F4_4; try clear F4_5; try clear F4_6; try clear F4_7
  obtain ⟨kq, x3_1, HA, HJ1, HO_3, BK235, HB⟩ := hcut
  cases kq with
  | zero => exact absurd HA.out (by simp [expr_names.j0])
  | succ kj1 =>
   have H := HA.out
   clear HA
   simp only [expr_names.j0] at H
   have H' := am H
   clear H
   obtain ⟨Z9_0, Z9_1, Z9_2, Z9_3, Z9_4, Z9_5, Z9_6, Z9_7, F9_0, F9_1, F9_2, F9_3, F9_4, F9_5, F9_6, F9_7⟩ := cz8 BK235.out
   go_wp2
   (try simp only [Act.put, List.setIfInBounds_toArray, List.set_cons_succ, List.set_cons_zero])
   go_loopg [3, 17] kj1 (fun kq v3 v17 w' => ∃ (x3_2 : List ByteArray) (x17_2 : Int), v17 = .int .i64 x17_2 ∧ Aside0 (expr_names.l0 kq x3_2 l0_7 (l0_7.length : Int) x17_2 = some r) ∧ Aside0 (kq ≤ kj1) ∧ Aside0 (Kd.R Kd.string 9 w' w.heap.size (fun _ => True) v3 x3_2) ∧ Aside0 (w'.heap[gb235]? = some (.cells #[.int .i64 a0_0, .int .i64 a0_1, .int .i64 a0_2, .int .i64 a0_3, .string a0_4, .int .i64 a0_5, .string a0_6, (.slice A0_7 l0_7.length c0_7)] 31 (0, 0))) ∧ Aside0 (Below w.heap.size w w'))
   case atStart => exact ⟨(x3_1), (0), sz, H', ⟨Nat.le_refl _⟩, ⟨rr HO_3.out⟩, ⟨bk BK235.out⟩, ⟨bz HB.out⟩⟩
   case round =>
    clear H'
    try clear c5; try clear c5b0; try clear c5b1; try clear c6; try clear Z4_0; try clear Z4_1; try clear Z4_2; try clear Z4_3; try clear Z4_4; try clear Z4_5; try clear Z4_6; try clear Z4_7; try clear Z7_0; try clear Z7_1; try clear Z7_2; try clear Z7_3; try clear Z7_4; try clear Z7_5; try clear Z7_6; try clear Z7_7; try clear Z9_0; try clear Z9_1; try clear Z9_2; try clear Z9_3; try clear Z9_4; try clear Z9_5; try clear Z9_6; try clear Z9_7; try clear F4_0; try clear F4_1; try clear F4_2; try clear F4_3; try clear F4_4; try clear F4_5; try clear F4_6; try clear F4_7; try clear F7_0; try clear F7_1; try clear F7_2; try clear F7_3; try clear F7_4; try clear F7_5; try clear F7_6; try clear F7_7; try clear F9_0; try clear F9_1; try clear F9_2; try clear F9_3; try clear F9_4; try clear F9_5; try clear F9_6; try clear F9_7
    obtain ⟨x3_2, x17_2, rfl, HA, HK2, HO_3, BK235, HB⟩ := hrel
    cases gk with
    | zero => exact absurd HA.out (by simp [expr_names.l0])
    | succ k2 =>
     have H := HA.out
     clear HA
     simp only [expr_names.l0] at H
     by_cases c10 : x17_2 < (l0_7.length : Int)
     ·rw [if_pos c10] at H
      have c10b0 : decide (x17_2 < (l0_7.length : Int)) = true := decide_eq_true c10
      clear c10
      by_cases c11 : 0 ≤ x17_2
      ·rw [if_pos c11] at H
       have c11b0 : decide (0 ≤ x17_2) = true := decide_eq_true c11
       clear c11
       by_cases c12 : x17_2 < (l0_7.length : Int)
       ·rw [if_pos c12] at H
        have c12b0 : decide (x17_2 < (l0_7.length : Int)) = true := decide_eq_true c12
        clear c12
        replace H := obe H
        obtain ⟨t241, A13, H⟩ := H
        by_cases c14 : x3_2.length + t241.length < 8796093022208
        ·rw [if_pos c14] at H
         have LMc14 := am c14
         clear c14
         obtain ⟨y244, hy244⟩ : ∃ y_ : List ByteArray, y_ = (x3_2 ++ t241) := ⟨_, rfl⟩
         replace H : (expr_names.l0 k2 y244 l0_7 (l0_7.length : Int) (wrap64 (x17_2 + 1))) = some r := by first | (rw [hy244]; with_reducible exact H) | (have H2_ := (Option.bind_some _ _).symm.trans H; rw [hy244]; with_reducible exact H2_) | (have H2_ := (Option.bind_some _ _).symm.trans H; with_reducible exact H2_) | with_reducible exact H | (rw [hy244]; exact H) | exact H
         have Ny244 := am hy244
         clear hy244
         have H' := am H
         clear H
         have p239 : 0 ≤ (x17_2 : Int) := of_decide_eq_true tz
         have q239 : x17_2 < (l0_7.length : Int) := of_decide_eq_true tz
         obtain ⟨ad239, A239_7, c239_7, e239, hx239_0, hx239_1, hx239_2, hx239_3, hx239_4, hx239_5, hx239_6, hx239_7, hl239_7, hi239_7⟩ := at_T31 HR0_7.out x17_2 p239 q239
         cases e239
         replace hx239_0 := hbw HB.out hx239_0
         replace hx239_1 := hbw HB.out hx239_1
         replace hx239_2 := hbw HB.out hx239_2
         replace hx239_3 := hbw HB.out hx239_3
         replace hx239_4 := hbw HB.out hx239_4
         replace hx239_5 := hbw HB.out hx239_5
         replace hx239_6 := hbw HB.out hx239_6
         replace hx239_7 := hbw HB.out hx239_7
         have HR239_7 := am hi239_7
         have HC239_7 := am hl239_7
         clear hi239_7 hl239_7
         replace p239 := eq_true p239
         replace q239 := eq_true q239
         go_wp2_with (first | ((with_reducible refine gate_dst (N := 5) rfl ?_); refine bev (#[.int .i64 0, .int .i64 0, .int .i64 0, .int .i64 0, .string (⟨#[]⟩ : ByteArray), .int .i64 0, .string (⟨#[]⟩ : ByteArray), .slice none 0 0]) 31 ?_; intro gb240 hg w15 hbox hb; replace HO_3 := am (Kd.R_below (rr HO_3.out) hb); have BK240 := am (hbox); have GW240 := gs hg HB; have GE240 := GW240; replace HB := sb HB hb; have NB235_240 := na hg BK235; have NB240_235 := nb hg BK235; replace BK235 := kb BK235 hb; clear hb hbox hg; have hnb16 := NB240_235.out; have hnc16 := NB235_240.out; obtain ⟨Z17_0, Z17_1, Z17_2, Z17_3, Z17_4, Z17_5, Z17_6, Z17_7, F17_0, F17_1, F17_2, F17_3, F17_4, F17_5, F17_6, F17_7⟩ := cz8 BK240.out) | ((with_reducible refine gate_callee (f := 72) rfl ?_); refine gl_ (some 23) Tryz.func72 (by kernel_rfl) #[.agg #[.int .i64 ((rd_T31 l0_7 x17_2).f0), .int .i64 ((rd_T31 l0_7 x17_2).f1.f0), .int .i64 ((rd_T31 l0_7 x17_2).f1.f1.f0), .int .i64 ((rd_T31 l0_7 x17_2).f1.f1.f1), .string ((rd_T31 l0_7 x17_2).f1.f2), .int .i64 ((rd_T31 l0_7 x17_2).f1.f3), .string ((rd_T31 l0_7 x17_2).f2), .slice A239_7 ((rd_T31 l0_7 x17_2).f3).length c239_7]] rfl ?_; (with_reducible refine (ih k2 (by have := HJ1.out; have := HK2.out; omega) ((rd_T31 l0_7 x17_2).f0) ((rd_T31 l0_7 x17_2).f1.f0) ((rd_T31 l0_7 x17_2).f1.f1.f0) ((rd_T31 l0_7 x17_2).f1.f1.f1) ((rd_T31 l0_7 x17_2).f1.f2) ((rd_T31 l0_7 x17_2).f1.f3) ((rd_T31 l0_7 x17_2).f2) _ _ ((rd_T31 l0_7 x17_2).f3) t241 _ ?side1 ?side2 A13.out).mono ?_); (case side1 => exact Kd.C_below HR239_7.out (bz HB.out)); (case side2 => exact HC239_7.out); rintro e w18 ⟨v242, rfl, ho0, hb⟩; refine ⟨_, rfl, ?_⟩; have HO243 := am (Kd.R_lower (Kd.R_new' ho0 (Kd.R_lt (by (with_reducible repeat (first | apply Kd.R_alloc | apply Kd.R_drewN | apply Kd.R_drew)); exact (Kd.R_mono (Kd.R_far (p := ⟨gb240, 7, none⟩) (Kd.R_far (p := ⟨gb240, 6, none⟩) (Kd.R_far (p := ⟨gb240, 5, none⟩) (Kd.R_far (p := ⟨gb240, 4, none⟩) (Kd.R_far (p := ⟨gb240, 3, none⟩) (Kd.R_far (p := ⟨gb240, 2, none⟩) (Kd.R_far (p := ⟨gb240, 1, none⟩) (Kd.R_far (p := ⟨gb240, 0, none⟩) (Kd.R_types HO_3.out BK240.out (by decide)) (fun _ hk => hk.2) (.int .i64 ((rd_T31 l0_7 x17_2).f0))) (fun _ hk => hk.2) (.int .i64 ((rd_T31 l0_7 x17_2).f1.f0))) (fun _ hk => hk.2) (.int .i64 ((rd_T31 l0_7 x17_2).f1.f1.f0))) (fun _ hk => hk.2) (.int .i64 ((rd_T31 l0_7 x17_2).f1.f1.f1))) (fun _ hk => hk.2) (.string ((rd_T31 l0_7 x17_2).f1.f2))) (fun _ hk => hk.2) (.int .i64 ((rd_T31 l0_7 x17_2).f1.f3))) (fun _ hk => hk.2) (.string ((rd_T31 l0_7 x17_2).f2))) (fun _ hk => hk.2) (.slice A239_7 ((rd_T31 l0_7 x17_2).f3).length c239_7)) (fun _ h_ => h_.1))))) (below_size (bz HB.out))); replace HO_3 := am (Kd.R_elder' (by (with_reducible repeat (first | apply Kd.R_alloc | apply Kd.R_drewN | apply Kd.R_drew)); exact (Kd.R_mono (Kd.R_far (p := ⟨gb240, 7, none⟩) (Kd.R_far (p := ⟨gb240, 6, none⟩) (Kd.R_far (p := ⟨gb240, 5, none⟩) (Kd.R_far (p := ⟨gb240, 4, none⟩) (Kd.R_far (p := ⟨gb240, 3, none⟩) (Kd.R_far (p := ⟨gb240, 2, none⟩) (Kd.R_far (p := ⟨gb240, 1, none⟩) (Kd.R_far (p := ⟨gb240, 0, none⟩) (Kd.R_types HO_3.out BK240.out (by decide)) (fun _ hk => hk.2) (.int .i64 ((rd_T31 l0_7 x17_2).f0))) (fun _ hk => hk.2) (.int .i64 ((rd_T31 l0_7 x17_2).f1.f0))) (fun _ hk => hk.2) (.int .i64 ((rd_T31 l0_7 x17_2).f1.f1.f0))) (fun _ hk => hk.2) (.int .i64 ((rd_T31 l0_7 x17_2).f1.f1.f1))) (fun _ hk => hk.2) (.string ((rd_T31 l0_7 x17_2).f1.f2))) (fun _ hk => hk.2) (.int .i64 ((rd_T31 l0_7 x17_2).f1.f3))) (fun _ hk => hk.2) (.string ((rd_T31 l0_7 x17_2).f2))) (fun _ hk => hk.2) (.slice A239_7 ((rd_T31 l0_7 x17_2).f3).length c239_7)) (fun _ h_ => h_.1))) (Kd.R_base ho0) hb); replace BK235 := am (blk_below (g := gb235) (o := .cells #[.int .i64 a0_0, .int .i64 a0_1, .int .i64 a0_2, .int .i64 a0_3, .string a0_4, .int .i64 a0_5, .string a0_6, .slice (some ad239) l0_7.length c0_7] 31 (0, 0)) (bp BK235.out) hb); replace BK240 := am (blk_below (g := gb240) (o := .cells #[.int .i64 ((rd_T31 l0_7 x17_2).f0), .int .i64 ((rd_T31 l0_7 x17_2).f1.f0), .int .i64 ((rd_T31 l0_7 x17_2).f1.f1.f0), .int .i64 ((rd_T31 l0_7 x17_2).f1.f1.f1), .string ((rd_T31 l0_7 x17_2).f1.f2), .int .i64 ((rd_T31 l0_7 x17_2).f1.f3), .string ((rd_T31 l0_7 x17_2).f2), .slice A239_7 ((rd_T31 l0_7 x17_2).f3).length c239_7] 31 (0, 0)) (bp BK240.out) hb); replace HB := sb HB hb; clear hb ho0; obtain ⟨Ao20, co20, eo20⟩ := Kd.R_slice HO243.out; subst eo20) | ((with_reducible refine gate_builtin (b := .append) (xs := #[.tmp 21, .tmp 23]) rfl ?_); at_builtin; refine Kd.R_append_rows Kd.string (w0 := w) w.heap.size rfl (.tmp 21) (.tmp 23) 41 9 (.string ⟨#[]⟩) 16 rfl Tryz.underlying41 info9 rfl (by decide) (by omega) u3 x3_2 t241 _ _ _ (fun k_ => some k_ ≠ (.slice Ao20 t241.length co20 : Value).ownBlock) (fun _ => False) rfl rfl ?aO ?aR (fun _ _ h => h) (fun _ h => h.elim) ?aF ?aB ?aS ?aL ?_; (case aR => repeat (first | exact (Kd.R_reads' HO243.out).2.2 | (with_reducible refine Kd.C_alloc ?_ _) | (with_reducible refine Kd.C_drewN ?_ _) | (with_reducible refine Kd.C_drew ?_))); (case aB => exact (bz HB.out)); (case aF => exact (fun k_ hk => Kd.fresh' (Kd.R_lt (rr HO243.out)) k_ hk)); (case aO => exact (by (with_reducible repeat (first | apply Kd.R_alloc | apply Kd.R_drewN | apply Kd.R_drew)); exact Kd.R_mono HO_3.out (fun _ hk => hk.2))); (case aS => exact (below_size (bz HB.out))); (case aL => have := LMc14.out; omega); intro v245 w19 ho hb hg hat; rw [← Ny244.out] at ho; replace BK235 := am (blk_grown (bk BK235.out) hg (Kd.R_ne HO_3.out BK235.out (by decide))); replace BK240 := am (blk_grown (bk BK240.out) hg (Kd.R_ne HO_3.out BK240.out (by decide))); replace HO243 := am (Kd.R_after (ok := (fun _ => True)) (rr HO243.out) hg hat); replace HB := am (hb); have HO246 := am (ho); clear HO_3 ho hb hg hat))
         go_roundg k2
         case measure => have := HJ1.out; have := HK2.out; omega
         case rel => exact ⟨(y244), (wrap64 (x17_2 + 1)), sz, H', ⟨by have := HJ1.out; have := HK2.out; omega⟩, ⟨by (with_reducible repeat (first | apply Kd.R_alloc | apply Kd.R_drewN | apply Kd.R_drew)); exact Kd.R_mono HO246.out (fun _ hk => trivial)⟩, ⟨bk BK235.out⟩, ⟨bz HB.out⟩⟩
        rw [if_neg c14] at H
        exact absurd H (by simp)
       rw [if_neg c12] at H
       exact absurd H (by simp)
      rw [if_neg c11] at H
      exact absurd H (by simp)
     rw [if_neg c10] at H
     have c10b0 : decide (x17_2 < (l0_7.length : Int)) = false := decide_eq_false c10
     clear c10
     obtain rfl := Option.some.inj H
     go_wp2
     go_ret
     exact ⟨_, az, rr HO_3.out, bz HB.out⟩
end Go.Proofs.YtgkemhgihbfmmaaGreatDoor.PA
end
section
namespace Go.Proofs.YtgkemhgihbfmmaaGreatDoor.PA
open Go.RowKit Go.Proofs.YtgkemhgihbfmmaaGreatDoorW.PrintWords Go.Proofs.YtgkemhgihbfmmaaGreatDoorW.PrintLast Go.Proofs.YtgkemhgihbfmmaaGreatDoorW.PrintMore
attribute [local go_sem] max2_int min2_int max_two min_two max_three min_three max_four min_four isSome_set str_gtr
set_option linter.unusedVariables false
set_option linter.unusedSimpArgs false
end Go.Proofs.YtgkemhgihbfmmaaGreatDoor.PA
end
section
namespace Go.Proofs.YtgkemhgihbfmmaaGreatDoor.PA
open Go.RowKit Go.Proofs.YtgkemhgihbfmmaaGreatDoorW.PrintWords Go.Proofs.YtgkemhgihbfmmaaGreatDoorW.PrintLast Go.Proofs.YtgkemhgihbfmmaaGreatDoorW.PrintMore
attribute [local go_sem] max2_int min2_int max_two min_two max_three min_three max_four min_four isSome_set str_gtr
set_option linter.unusedVariables false
set_option linter.unusedSimpArgs false
def IsS63 (w0 W : World) (g : Nat) (f0 : List (S136)) (f1 f2 f3 f4 f5 : Int) : Prop := ∃ A0 c0, W.heap[g]? = some (.cells #[.slice A0 f0.length c0, .int .i64 f1, .int .i64 f2, .int .i64 f3, .int .i64 f4, .int .i64 f5] 63 (0, 0)) ∧ w0.heap.size ≤ g ∧ Kd.C k136 w0 A0 f0.length f0
theorem IsS63.grown {w0 W : World} {g : Nat} {f0 : List (S136)} {f1 : Int} {f2 : Int} {f3 : Int} {f4 : Int} {f5 : Int} {W1 : World} {row : Option Nat} (h : IsS63 w0 W g f0 f1 f2 f3 f4 f5) (hw : W.grownBy W1 row) (hne : some g ≠ row) : IsS63 w0 W1 g f0 f1 f2 f3 f4 f5 := by
 obtain ⟨A0, c0, hb, hg, hr0⟩ := h
 exact ⟨A0, c0, blk_grown hb hw hne, hg, hr0⟩
theorem IsS63.own_neN {w0 W : World} {g : Nat} {f0 : List (S136)} {f1 : Int} {f2 : Int} {f3 : Int} {f4 : Int} {f5 : Int} {α : Type} {d : Kd α} {e : Nat} {base : Nat} {ok : Nat → Prop} {v : Value} {xs : List α} (h : IsS63 w0 W g f0 f1 f2 f3 f4 f5) (ho : Kd.N d e W base ok v xs) (ht : e ≠ 63) : some g ≠ v.ownBlock := by
 obtain ⟨A0, c0, hb, hg, hr0⟩ := h
 exact Kd.N_ne ho hb ht
theorem IsS63.fresh {w0 W : World} {g : Nat} {f0 : List (S136)} {f1 : Int} {f2 : Int} {f3 : Int} {f4 : Int} {f5 : Int} (h : IsS63 w0 W g f0 f1 f2 f3 f4 f5) : ∀ k, W.heap.size ≤ k → k ≠ g := by
 obtain ⟨A0, c0, hb, hg, hr0⟩ := h
 exact Kd.freshB hb
theorem IsS63.below {w0 W : World} {g : Nat} {f0 : List (S136)} {f1 : Int} {f2 : Int} {f3 : Int} {f4 : Int} {f5 : Int} {W1 : World} (h : IsS63 w0 W g f0 f1 f2 f3 f4 f5) (hw : Below W.heap.size W W1) : IsS63 w0 W1 g f0 f1 f2 f3 f4 f5 := h.grown (grown_of_below hw none) (by simp)
theorem IsS63.drewN {w0 W : World} {g : Nat} {f0 : List (S136)} {f1 : Int} {f2 : Int} {f3 : Int} {f4 : Int} {f5 : Int} (h : IsS63 w0 W g f0 f1 f2 f3 f4 f5) (m : Nat) : IsS63 w0 (W.drewN m) g f0 f1 f2 f3 f4 f5 := h
theorem IsS63.drew {w0 W : World} {g : Nat} {f0 : List (S136)} {f1 : Int} {f2 : Int} {f3 : Int} {f4 : Int} {f5 : Int} (h : IsS63 w0 W g f0 f1 f2 f3 f4 f5) : IsS63 w0 W.drew g f0 f1 f2 f3 f4 f5 := h
theorem IsS63.lt {w0 W : World} {g : Nat} {f0 : List (S136)} {f1 : Int} {f2 : Int} {f3 : Int} {f4 : Int} {f5 : Int} (h : IsS63 w0 W g f0 f1 f2 f3 f4 f5) : g < W.heap.size := by
 obtain ⟨A0, c0, hb, hg, hr0⟩ := h
 exact blk_lt hb
theorem IsS63.ge {w0 W : World} {g : Nat} {f0 : List (S136)} {f1 : Int} {f2 : Int} {f3 : Int} {f4 : Int} {f5 : Int} (h : IsS63 w0 W g f0 f1 f2 f3 f4 f5) : w0.heap.size ≤ g := by
 obtain ⟨A0, c0, hb, hg, hr0⟩ := h
 exact hg
theorem IsS63.ne_blk {w0 W : World} {g : Nat} {f0 : List (S136)} {f1 : Int} {f2 : Int} {f3 : Int} {f4 : Int} {f5 : Int} {a : Nat} {cs : Array Value} {t : TypeId} {fr : Nat × Nat} (h : IsS63 w0 W g f0 f1 f2 f3 f4 f5) (hb2 : W.heap[a]? = some (.cells cs t fr)) (ht : t ≠ 63) : g ≠ a := by
 obtain ⟨A0, c0, hb, hg, hr0⟩ := h
 rintro rfl
 rw [hb] at hb2
 injection hb2 with hb2
 injection hb2 with _ ht2
 exact ht ht2.symm
theorem IsS63.far {w0 W : World} {g : Nat} {f0 : List (S136)} {f1 : Int} {f2 : Int} {f3 : Int} {f4 : Int} {f5 : Int} {p : Addr} (h : IsS63 w0 W g f0 f1 f2 f3 f4 f5) (hne : g ≠ p.block) (u : Value) : IsS63 w0 (W.setCell p u) g f0 f1 f2 f3 f4 f5 := by
 obtain ⟨A0, c0, hb, hg, hr0⟩ := h
 exact ⟨A0, c0, blk_far hb hne u, hg, hr0⟩
theorem cellS63_0 {W : World} {g : Nat} {A0 : Option Addr} {c0 : Nat} {f0 : List (S136)} {f1 : Int} {f2 : Int} {f3 : Int} {f4 : Int} {f5 : Int} (h : W.heap[g]? = some (.cells #[.slice A0 f0.length c0, .int .i64 f1, .int .i64 f2, .int .i64 f3, .int .i64 f4, .int .i64 f5] 63 (0, 0))) : W.cell? ⟨g, 0, none⟩ = some (.slice A0 f0.length c0) := (blk_cell h 0).trans rfl
theorem cellS63_1 {W : World} {g : Nat} {A0 : Option Addr} {c0 : Nat} {f0 : List (S136)} {f1 : Int} {f2 : Int} {f3 : Int} {f4 : Int} {f5 : Int} (h : W.heap[g]? = some (.cells #[.slice A0 f0.length c0, .int .i64 f1, .int .i64 f2, .int .i64 f3, .int .i64 f4, .int .i64 f5] 63 (0, 0))) : W.cell? ⟨g, 1, none⟩ = some (.int .i64 f1) := (blk_cell h 1).trans rfl
theorem IsS63.set_1 {w0 W : World} {g : Nat} {f0 : List (S136)} {f1 : Int} {f2 : Int} {f3 : Int} {f4 : Int} {f5 : Int} (h : IsS63 w0 W g f0 f1 f2 f3 f4 f5) (x : Int) : IsS63 w0 (W.setCell ⟨g, 1, none⟩ (.int .i64 x)) g f0 x f2 f3 f4 f5 := by
 obtain ⟨A0, c0, hb, hg, hr0⟩ := h
 exact ⟨A0, c0, by simpa using blk_set hb 1 (.int .i64 x), hg, hr0⟩
theorem cellS63_2 {W : World} {g : Nat} {A0 : Option Addr} {c0 : Nat} {f0 : List (S136)} {f1 : Int} {f2 : Int} {f3 : Int} {f4 : Int} {f5 : Int} (h : W.heap[g]? = some (.cells #[.slice A0 f0.length c0, .int .i64 f1, .int .i64 f2, .int .i64 f3, .int .i64 f4, .int .i64 f5] 63 (0, 0))) : W.cell? ⟨g, 2, none⟩ = some (.int .i64 f2) := (blk_cell h 2).trans rfl
theorem cellS63_3 {W : World} {g : Nat} {A0 : Option Addr} {c0 : Nat} {f0 : List (S136)} {f1 : Int} {f2 : Int} {f3 : Int} {f4 : Int} {f5 : Int} (h : W.heap[g]? = some (.cells #[.slice A0 f0.length c0, .int .i64 f1, .int .i64 f2, .int .i64 f3, .int .i64 f4, .int .i64 f5] 63 (0, 0))) : W.cell? ⟨g, 3, none⟩ = some (.int .i64 f3) := (blk_cell h 3).trans rfl
theorem cellS63_4 {W : World} {g : Nat} {A0 : Option Addr} {c0 : Nat} {f0 : List (S136)} {f1 : Int} {f2 : Int} {f3 : Int} {f4 : Int} {f5 : Int} (h : W.heap[g]? = some (.cells #[.slice A0 f0.length c0, .int .i64 f1, .int .i64 f2, .int .i64 f3, .int .i64 f4, .int .i64 f5] 63 (0, 0))) : W.cell? ⟨g, 4, none⟩ = some (.int .i64 f4) := (blk_cell h 4).trans rfl
theorem cellS63_5 {W : World} {g : Nat} {A0 : Option Addr} {c0 : Nat} {f0 : List (S136)} {f1 : Int} {f2 : Int} {f3 : Int} {f4 : Int} {f5 : Int} (h : W.heap[g]? = some (.cells #[.slice A0 f0.length c0, .int .i64 f1, .int .i64 f2, .int .i64 f3, .int .i64 f4, .int .i64 f5] 63 (0, 0))) : W.cell? ⟨g, 5, none⟩ = some (.int .i64 f5) := (blk_cell h 5).trans rfl
theorem IsS63.set_5 {w0 W : World} {g : Nat} {f0 : List (S136)} {f1 : Int} {f2 : Int} {f3 : Int} {f4 : Int} {f5 : Int} (h : IsS63 w0 W g f0 f1 f2 f3 f4 f5) (x : Int) : IsS63 w0 (W.setCell ⟨g, 5, none⟩ (.int .i64 x)) g f0 f1 f2 f3 f4 x := by
 obtain ⟨A0, c0, hb, hg, hr0⟩ := h
 exact ⟨A0, c0, by simpa using blk_set hb 5 (.int .i64 x), hg, hr0⟩
theorem open63 {w0 W : World} {g : Nat} {f0 : List (S136)} {f1 f2 f3 f4 f5 : Int} (h : IsS63 w0 W g f0 f1 f2 f3 f4 f5) : ∃ A c, Kd.C k136 w0 A f0.length f0 ∧ W.cell? ⟨g, 0, none⟩ = some (.slice A f0.length c) ∧ W.cell? ⟨g, 1, none⟩ = some (.int .i64 f1) ∧ W.cell? ⟨g, 2, none⟩ = some (.int .i64 f2) ∧ W.cell? ⟨g, 3, none⟩ = some (.int .i64 f3) ∧ W.cell? ⟨g, 4, none⟩ = some (.int .i64 f4) ∧ W.cell? ⟨g, 5, none⟩ = some (.int .i64 f5) ∧
  W.frozen? ⟨g, 1, none⟩ = false ∧ W.frozen? ⟨g, 2, none⟩ = false ∧ W.frozen? ⟨g, 3, none⟩ = false ∧ W.frozen? ⟨g, 4, none⟩ = false ∧ W.frozen? ⟨g, 5, none⟩ = false := by
 obtain ⟨A, c, hb, hg, hr⟩ := h
 exact ⟨A, c, hr, cellS63_0 hb, cellS63_1 hb, cellS63_2 hb, cellS63_3 hb, cellS63_4 hb, cellS63_5 hb, blk_frozen hb 1, blk_frozen hb 2, blk_frozen hb 3, blk_frozen hb 4, blk_frozen hb 5⟩
def expr_Parser_Is.j0 : Nat → Bool → List (S136) → Int → Int → Int → Int → Int → Option (Bool × Int × Int × Int × Int × Int)
 | 0, _, _, _, _, _, _, _ => none
 | k + 1, x4, x1000, x1001, x1002, x1003, x1004, x1005 => some (x4, x1001, x1002, x1003, x1004, x1005)
def expr_Parser_Is.f (k : Nat) (s0_0 : List (S136)) (s0_1 s0_2 s0_3 s0_4 s0_5 : Int) (a1 : ByteArray) : Option (Bool × Int × Int × Int × Int × Int) := if s0_4 = 0 then (if s0_1 ≥ (s0_0.length : Int) then (some (false, s0_1, s0_2, s0_3, s0_4, s0_5)) else (if 0 ≤ s0_1 then (if s0_1 < (s0_0.length : Int) then (if ((rd_T136 s0_0 s0_1).f0) = 4 then (expr_Parser_Is.j0 k (((rd_T136 s0_0 s0_1).f2).toList == a1.toList) s0_0 s0_1 s0_2 s0_3 s0_4 s0_5) else (if ((rd_T136 s0_0 s0_1).f0) = 5 then (expr_Parser_Is.j0 k (((rd_T136 s0_0 s0_1).f2).toList == a1.toList) s0_0 s0_1 s0_2 s0_3 s0_4 s0_5) else (expr_Parser_Is.j0 k false s0_0 s0_1 s0_2 s0_3 s0_4 s0_5))) else (none)) else (none))) else (some (false, s0_1, s0_2, s0_3, s0_4, s0_5))
theorem expr_Parser_Is.mono_l : ∀ k, (∀ y0 y1 y2 y3 y4 y5 y6, LeO (expr_Parser_Is.j0 k y0 y1 y2 y3 y4 y5 y6) (expr_Parser_Is.j0 (k + 1) y0 y1 y2 y3 y4 y5 y6))
 | 0 => fun _ _ _ _ _ _ _ r h => by simp [expr_Parser_Is.j0] at h
 | k + 1 => by
  have ih0 := expr_Parser_Is.mono_l k
  ·intro y0 y1 y2 y3 y4 y5 y6
   unfold expr_Parser_Is.j0
   exact lmo
theorem expr_Parser_Is.mono : ∀ a0 a1 a2 a3 a4 a5 a6 k, LeO (expr_Parser_Is.f k a0 a1 a2 a3 a4 a5 a6) (expr_Parser_Is.f (k + 1) a0 a1 a2 a3 a4 a5 a6) := by
 intro a0 a1 a2 a3 a4 a5 a6 k
 have ih0 := expr_Parser_Is.mono_l k
 unfold expr_Parser_Is.f
 exact lmo
def expr_Parser_Is.T1 : Bool × List (List Nat × List Nat) := (true, [([], []), ([0], [0]), ([1], [1]), ([2], [2]), ([3], [3]), ([4], [4]), ([5], [5]), ([6, 5], [5, 6]), ([7, 5], [5, 7]), ([8, 5], [5, 8]), ([5], [5]), ([10, 5], [5, 10]), ([11, 5], [5, 11]), ([12, 5], [5, 12]), ([13, 5], [5, 13]), ([9, 14, 5], [5, 9, 14]), ([5, 15], [5, 15])])
def expr_Parser_Is.B1 : List Nat := [0, 1, 3, 7, 15, 31, 63, 127, 255, 511, 63, 1087, 3135, 7231, 15423, 32767, 65535]
theorem expr_Parser_Is.tab1 : rtab .any (opsOf Tryz.f107 1) = expr_Parser_Is.T1 := by kernel_rfl
theorem expr_Parser_Is.bits1 : waitsOk expr_Parser_Is.T1.2 expr_Parser_Is.B1 = true := by kernel_rfl
def expr_Parser_Is.T3 : Bool × List (List Nat × List Nat) := (true, [([], []), ([0], [0]), ([1], [1]), ([2], [2]), ([], []), ([4], [4]), ([5], [5]), ([6], [6]), ([3, 7], [3, 7]), ([8], [8]), ([], []), ([10, 9, 0, 1, 2, 3, 4, 5, 6, 7, 8, 9, 10], [9, 10])])
def expr_Parser_Is.B3 : List Nat := [0, 1, 3, 7, 0, 16, 48, 112, 255, 511, 0, 2047]
theorem expr_Parser_Is.tab3 : rtab .any (opsOf Tryz.f107 3) = expr_Parser_Is.T3 := by kernel_rfl
theorem expr_Parser_Is.bits3 : waitsOk expr_Parser_Is.T3.2 expr_Parser_Is.B3 = true := by kernel_rfl
set_option maxHeartbeats 8000000 in
set_option maxRecDepth 100000 in
theorem expr_Parser_Is.calls (k : Nat) (g : Nat) (s0_0 : List (S136)) (s0_1 s0_2 s0_3 s0_4 s0_5 : Int) (a1 : ByteArray) (r1 : Bool) (r2 r3 r4 r5 r6 : Int) (w0 w : World) (hI : IsS63 w0 w g s0_0 s0_1 s0_2 s0_3 s0_4 s0_5) (hB : Below w0.heap.size w0 w) (h : expr_Parser_Is.f k s0_0 s0_1 s0_2 s0_3 s0_4 s0_5 a1 = some (r1, r2, r3, r4, r5, r6)) :
  Calls Tryz.prog 107 #[.pointer (some ⟨g, 0, none⟩), .string a1] w fun e w' => e = .returned (.bool r1) ∧ IsS63 w0 w' g s0_0 r2 r3 r4 r5 r6 ∧ Below w0.heap.size w0 w' ∧ KeepBut w w' g none := by
 have hu136 := Tryz.underlying136
 have HI0 := am hI
 have HK := am (KeepBut.refl w g none)
 have HL := am hB.size
 clear hI
 have HW0 := am hB.size
 have HB := am hB
 clear hB
 have H : (if s0_4 = 0 then (if s0_1 ≥ (s0_0.length : Int) then (some (false, s0_1, s0_2, s0_3, s0_4, s0_5)) else (if 0 ≤ s0_1 then (if s0_1 < (s0_0.length : Int) then (if ((rd_T136 s0_0 s0_1).f0) = 4 then (expr_Parser_Is.j0 k (((rd_T136 s0_0 s0_1).f2).toList == a1.toList) s0_0 s0_1 s0_2 s0_3 s0_4 s0_5) else (if ((rd_T136 s0_0 s0_1).f0) = 5 then (expr_Parser_Is.j0 k (((rd_T136 s0_0 s0_1).f2).toList == a1.toList) s0_0 s0_1 s0_2 s0_3 s0_4 s0_5) else (expr_Parser_Is.j0 k false s0_0 s0_1 s0_2 s0_3 s0_4 s0_5))) else (none)) else (none))) else (some (false, s0_1, s0_2, s0_3, s0_4, s0_5))) = some (r1, r2, r3, r4, r5, r6) := h
 clear h
 by_cases c3 : s0_4 = 0
 ·replace H := ipe c3 H
  obtain ⟨H, c3b0, c3b1⟩ := H
  clear c3
  have HC4 := am H
  clear H
  go_enter Tryz.func107, Tryz.ntmps107
  try go_wp2
  replace HI0 := am (IsS63.drew HI0.out)
  replace HK := am (keep_drew HK.out)
  replace HB := am (below_drew1 HB.out)
  obtain ⟨ASz6_0, cSz6_0, HSz6_0, Z6_0, Z6_1, Z6_2, Z6_3, Z6_4, Z6_5, F6_1, F6_2, F6_3, F6_4, F6_5⟩ := open63 HI0.out
  refine start_ (n := 17) (S := fun w' => w'.cell? ⟨g, 0, none⟩ = some (.slice ASz6_0 s0_0.length cSz6_0) ∧ w'.cell? ⟨g, 1, none⟩ = some (.int .i64 s0_1) ∧ w'.cell? ⟨g, 2, none⟩ = some (.int .i64 s0_2) ∧ w'.cell? ⟨g, 3, none⟩ = some (.int .i64 s0_3) ∧ w'.cell? ⟨g, 4, none⟩ = some (.int .i64 s0_4) ∧ w'.cell? ⟨g, 5, none⟩ = some (.int .i64 s0_5)) (ds := []) (bts0 17) (by kernel_rfl) rfl rfl ⟨Z6_0, Z6_1, Z6_2, Z6_3, Z6_4, Z6_5⟩ (fun hHeld => ?_); refine with_tabW expr_Parser_Is.tab1 expr_Parser_Is.bits1 (fun HT_ HW_ => ?_)
  generalize w.drew = w5 at HI0 HK HB hHeld ⊢
  refine pu 0 (some 6) (bts 17 1) (any_of HT_.out (by kernel_rfl)) ?_
  refine pu 1 (some 7) (bts 17 3) (any_of HT_.out (by kernel_rfl)) ?_
  refine pu 2 (some 8) (bts 17 7) (any_of HT_.out (by kernel_rfl)) ?_
  refine ta 3 (some 9) (bts 17 15) (take_ofW HT_.out HW_.out (by kernel_rfl)) hHeld ?_
  refine pu 4 (some 10) (bts 17 31) (any_of HT_.out (by kernel_rfl)) ?_
  refine pu 5 (some 11) (bts 17 63) (any_of HT_.out (by kernel_rfl)) ?_
  refine pu 6 (some 12) (bts 17 127) (any_of HT_.out (by kernel_rfl)) ?_
  refine pu 7 (some 13) (bts 17 255) (any_of HT_.out (by kernel_rfl)) ?_
  refine pu 8 (some 14) (bts 17 511) (any_of HT_.out (by kernel_rfl)) ?_
  refine pu 10 (some 16) (bts 17 1535) (any_of HT_.out (by kernel_rfl)) ?_
  refine pu 11 (some 17) (bts 17 3583) (any_of HT_.out (by kernel_rfl)) ?_
  refine pu 12 (some 18) (bts 17 7679) (any_of HT_.out (by kernel_rfl)) ?_
  refine ta 9 (some 15) (bts 17 8191) (take_ofW HT_.out HW_.out (by kernel_rfl)) hHeld ?_
  refine ta 13 (some 19) (bts 17 16383) (take_ofW HT_.out HW_.out (by kernel_rfl)) hHeld ?_
  refine pu 14 (some 20) (bts 17 32767) (any_of HT_.out (by kernel_rfl)) ?_
  refine pu 15 (some 21) (bts 17 65535) (any_of HT_.out (by kernel_rfl)) ?_
  refine pu 16 (some 22) (bts 17 131071) (any_of HT_.out (by kernel_rfl)) ?_
  refine done_ (done_of HT_.out (by kernel_rfl)) ?_
  go_upto_if 22 with (fail)
  have H := HC4.out
  clear HC4
  clear Z6_0 Z6_1 Z6_2 Z6_3 Z6_4 Z6_5 F6_1 F6_2 F6_3 F6_4 F6_5
  by_cases c7 : s0_1 ≥ (s0_0.length : Int)
  ·rw [if_pos c7] at H
   have c7b0 : decide ((s0_0.length : Int) ≤ s0_1) = true := decide_eq_true c7
   clear c7
   (first | rw [c7b0] | (simp only [i64_w, i32_w]; rw [c7b0]) | skip)
   simp only [Option.some.injEq, Prod.mk.injEq] at H
   obtain ⟨rfl, rfl, rfl, rfl, rfl, rfl⟩ := H
   go_wp2
   go_ret
   exact ⟨az, hz HI0.out, bz HB.out, kz HK.out⟩
  rw [if_neg c7] at H
  have c7b0 : decide ((s0_0.length : Int) ≤ s0_1) = false := decide_eq_false c7
  clear c7
  (first | rw [c7b0] | (simp only [i64_w, i32_w]; rw [c7b0]) | skip)
  by_cases c8 : 0 ≤ s0_1
  ·rw [if_pos c8] at H
   have c8b0 : decide (0 ≤ s0_1) = true := decide_eq_true c8
   clear c8
   by_cases c9 : s0_1 < (s0_0.length : Int)
   ·rw [if_pos c9] at H
    have c9b0 : decide (s0_1 < (s0_0.length : Int)) = true := decide_eq_true c9
    clear c9
    have HC10 := am H
    clear H
    try go_wp2
    replace HI0 := am (IsS63.drew HI0.out)
    replace HK := am (keep_drew HK.out)
    replace HB := am (below_drew1 HB.out)
    obtain ⟨ASz12_0, cSz12_0, HSz12_0, Z12_0, Z12_1, Z12_2, Z12_3, Z12_4, Z12_5, F12_1, F12_2, F12_3, F12_4, F12_5⟩ := open63 HI0.out
    have p247 : 0 ≤ (s0_1 : Int) := of_decide_eq_true tz
    have q247 : s0_1 < (s0_0.length : Int) := of_decide_eq_true tz
    obtain ⟨ad247, e247, hx247_0, hx247_1, hx247_2, hx247_3, hx247_4, hx247_5⟩ := at_T136 HSz12_0 s0_1 p247 q247
    have hw247_5 := hx247_5
    have hw247_4 := hx247_4
    have hw247_3 := hx247_3
    have hw247_2 := hx247_2
    have hw247_1 := hx247_1
    have hw247_0 := hx247_0
    cases e247
    replace hx247_0 := pw_cell_below HB.out hx247_0
    replace hx247_1 := pw_cell_below HB.out hx247_1
    replace hx247_2 := pw_cell_below HB.out hx247_2
    replace hx247_3 := pw_cell_below HB.out hx247_3
    replace hx247_4 := pw_cell_below HB.out hx247_4
    replace hx247_5 := pw_cell_below HB.out hx247_5
    replace p247 := eq_true p247
    replace q247 := eq_true q247
    refine start_ (n := 12) (S := fun w' => w'.cell? ⟨g, 0, none⟩ = some (.slice (some ad247) s0_0.length cSz12_0) ∧ w'.cell? ⟨g, 1, none⟩ = some (.int .i64 s0_1) ∧ w'.cell? ⟨g, 2, none⟩ = some (.int .i64 s0_2) ∧ w'.cell? ⟨g, 3, none⟩ = some (.int .i64 s0_3) ∧ w'.cell? ⟨g, 4, none⟩ = some (.int .i64 s0_4) ∧ w'.cell? ⟨g, 5, none⟩ = some (.int .i64 s0_5) ∧ w'.cell? (ad247.add ((s0_1).toNat * 6)) = some (.int .i64 ((rd_T136 s0_0 s0_1).f0)) ∧ w'.cell? ⟨(ad247.add ((s0_1).toNat * 6)).block, (ad247.add ((s0_1).toNat * 6)).off + 1, none⟩ = some (.int .i64 ((rd_T136 s0_0 s0_1).f1)) ∧ w'.cell? ⟨(ad247.add ((s0_1).toNat * 6)).block, (ad247.add ((s0_1).toNat * 6)).off + 2, none⟩ = some (.string ((rd_T136 s0_0 s0_1).f2)) ∧ w'.cell? ⟨(ad247.add ((s0_1).toNat * 6)).block, (ad247.add ((s0_1).toNat * 6)).off + 3, none⟩ = some (.int .i64 ((rd_T136 s0_0 s0_1).f3.f0)) ∧ w'.cell? ⟨(ad247.add ((s0_1).toNat * 6)).block, (ad247.add ((s0_1).toNat * 6)).off + 4, none⟩ = some (.int .i64 ((rd_T136 s0_0 s0_1).f3.f1)) ∧ w'.cell? ⟨(ad247.add ((s0_1).toNat * 6)).block, (ad247.add ((s0_1).toNat * 6)).off + 5, none⟩ = some (.int .i64 ((rd_T136 s0_0 s0_1).f4))) (ds := []) (bts0 12) (by kernel_rfl) rfl rfl ⟨Z12_0, Z12_1, Z12_2, Z12_3, Z12_4, Z12_5, (hbw HB.out hw247_0), (hbw HB.out hw247_1), (hbw HB.out hw247_2), (hbw HB.out hw247_3), (hbw HB.out hw247_4), (hbw HB.out hw247_5)⟩ (fun hHeld => ?_); refine with_tabW expr_Parser_Is.tab3 expr_Parser_Is.bits3 (fun HT_ HW_ => ?_)
    generalize w5.drew = w11 at HI0 HK HB hx247_0 hx247_1 hx247_2 hx247_3 hx247_4 hx247_5 hHeld ⊢
    refine pu 0 (some 23) (bts 12 1) (any_of HT_.out (by kernel_rfl)) ?_
    refine pu 1 (some 24) (bts 12 3) (any_of HT_.out (by kernel_rfl)) ?_
    refine pu 2 (some 25) (bts 12 7) (any_of HT_.out (by kernel_rfl)) ?_
    refine pu 4 (some 27) (bts 12 23) (any_of HT_.out (by kernel_rfl)) ?_
    refine pu 5 (some 28) (bts 12 55) (any_of HT_.out (by kernel_rfl)) ?_
    refine pu 6 (some 29) (bts 12 119) (any_of HT_.out (by kernel_rfl)) ?_
    refine ta 3 (some 26) (bts 12 127) (take_ofW HT_.out HW_.out (by kernel_rfl)) hHeld ?_
    refine ta 7 (some 30) (bts 12 255) (take_ofW HT_.out HW_.out (by kernel_rfl)) hHeld ?_
    refine pu 8 (some 31) (bts 12 511) (any_of HT_.out (by kernel_rfl)) ?_
    refine ta 9 (some 32) (bts 12 1023) (take_ofW HT_.out HW_.out (by kernel_rfl)) hHeld ?_
    refine one_ (i := 10) (N := some 5) (bts 12 2047) rfl rfl (one_of HT_.out (by kernel_rfl)) (by decide) (fun K hK => ?_)
    refine box_step ?hg (N := 5) ?hd (cs := #[.int .i64 0, .int .i64 0, .string (⟨#[]⟩ : ByteArray), .int .i64 0, .int .i64 0, .int .i64 0]) (t := 136) ?hr ?_; (case hd => rfl); (case hg => rfl); (case hr => first | (go_simp; done) | (go_simp; rfl))
    intro gb248 hg w13 hbox hb
    have HS0_ := (hb.cell (World.block_lt_of_cell? _ _ (hHeld.1))).trans (hHeld.1)
    have HS1_ := (hb.cell (World.block_lt_of_cell? _ _ (hHeld.2.1))).trans (hHeld.2.1)
    have HS2_ := (hb.cell (World.block_lt_of_cell? _ _ (hHeld.2.2.1))).trans (hHeld.2.2.1)
    have HS3_ := (hb.cell (World.block_lt_of_cell? _ _ (hHeld.2.2.2.1))).trans (hHeld.2.2.2.1)
    have HS4_ := (hb.cell (World.block_lt_of_cell? _ _ (hHeld.2.2.2.2.1))).trans (hHeld.2.2.2.2.1)
    have HS5_ := (hb.cell (World.block_lt_of_cell? _ _ (hHeld.2.2.2.2.2.1))).trans (hHeld.2.2.2.2.2.1)
    replace HB := sb HB hb
    have BK248 := am (hbox)
    have GW248 := gk hg HK
    have GE248 := am (Nat.le_trans HW0.out GW248.out)
    replace HK := am (KeepBut.trans (kz HK.out) (KeepBut.of_below hb g none) (.inl rfl))
    have NB0_248 := am ((nlt (a := g) hg (IsS63.lt (show IsS63 w0 _ g s0_0 s0_1 s0_2 s0_3 s0_4 s0_5 from hz HI0.out))))
    have NB248_0 := am ((ngt (a := g) hg (IsS63.lt (show IsS63 w0 _ g s0_0 s0_1 s0_2 s0_3 s0_4 s0_5 from hz HI0.out))))
    replace HI0 := am (IsS63.below (hz HI0.out) hb)
    clear hb hbox hg
    refine hK.out _ _ ⟨HS0_, HS1_, HS2_, HS3_, HS4_, HS5_, (hbw HB.out hw247_0), (hbw HB.out hw247_1), (hbw HB.out hw247_2), (hbw HB.out hw247_3), (hbw HB.out hw247_4), (hbw HB.out hw247_5)⟩ (fun hHeld => ?_)
    clear hK K
    refine norm_ (a' := ?_) ?_ ?_
    rotate_left
    ·show Act.put _ (some 5) _ = _
     simp only [Act.put, List.setIfInBounds_toArray, List.set_cons_zero, List.set_cons_succ, i64_w, i32_w]
     rfl
    refine one_ (i := 11) (N := none) (bts 12 4095) rfl rfl (one_of HT_.out (by kernel_rfl)) (by decide) (fun K hK => ?_)
    have hs14 : w13.cell? ⟨gb248, 0, none⟩ = some (.int .i64 0) := (blk_cell BK248.out 0).trans rfl
    have hfs14 := blk_frozen BK248.out 0
    have hs15 : w13.cell? ⟨gb248, 1, none⟩ = some (.int .i64 0) := (blk_cell BK248.out 1).trans rfl
    have hfs15 := blk_frozen BK248.out 1
    have hs16 : w13.cell? ⟨gb248, 2, none⟩ = some (.string (⟨#[]⟩ : ByteArray)) := (blk_cell BK248.out 2).trans rfl
    have hfs16 := blk_frozen BK248.out 2
    have hs17 : w13.cell? ⟨gb248, 3, none⟩ = some (.int .i64 0) := (blk_cell BK248.out 3).trans rfl
    have hfs17 := blk_frozen BK248.out 3
    have hs18 : w13.cell? ⟨gb248, 4, none⟩ = some (.int .i64 0) := (blk_cell BK248.out 4).trans rfl
    have hfs18 := blk_frozen BK248.out 4
    have hs19 : w13.cell? ⟨gb248, 5, none⟩ = some (.int .i64 0) := (blk_cell BK248.out 5).trans rfl
    have hfs19 := blk_frozen BK248.out 5
    refine skip_ (w1 := ?_) (by rfl) rfl ?_ ?_
    rotate_left
    ·go_simp
     rfl
    refine hK.out _ _ ⟨(cf hHeld.1), (cf hHeld.2.1), (cf hHeld.2.2.1), (cf hHeld.2.2.2.1), (cf hHeld.2.2.2.2.1), (cf hHeld.2.2.2.2.2.1), (cg (nlx hw247_0 HL.out GW248.out) hHeld.2.2.2.2.2.2.1), (cg (nlx hw247_1 HL.out GW248.out) hHeld.2.2.2.2.2.2.2.1), (cg (nlx hw247_2 HL.out GW248.out) hHeld.2.2.2.2.2.2.2.2.1), (cg (nlx hw247_3 HL.out GW248.out) hHeld.2.2.2.2.2.2.2.2.2.1), (cg (nlx hw247_4 HL.out GW248.out) hHeld.2.2.2.2.2.2.2.2.2.2.1), (cg (nlx hw247_5 HL.out GW248.out) hHeld.2.2.2.2.2.2.2.2.2.2.2)⟩ (fun hHeld => ?_)
    clear hK K
    refine done_ (done_of HT_.out (by kernel_rfl)) ?_
    go_upto_region 4 with (fail)
    go_cut [4] (fun v4 wc => ∃ (kq : Nat) (x4_9 : Bool), v4 = .bool x4_9 ∧ Aside0 (expr_Parser_Is.j0 kq x4_9 s0_0 s0_1 s0_2 s0_3 s0_4 s0_5 = some (r1, r2, r3, r4, r5, r6)) ∧ Aside0 (kq ≤ k) ∧ Aside0 (wc.heap[gb248]? = some (.cells #[.int .i64 ((rd_T136 s0_0 s0_1).f0), .int .i64 ((rd_T136 s0_0 s0_1).f1), .string ((rd_T136 s0_0 s0_1).f2), .int .i64 ((rd_T136 s0_0 s0_1).f3.f0), .int .i64 ((rd_T136 s0_0 s0_1).f3.f1), .int .i64 ((rd_T136 s0_0 s0_1).f4)] 136 (0, 0))) ∧ Aside0 (IsS63 w0 wc g s0_0 s0_1 s0_2 s0_3 s0_4 s0_5) ∧ Aside0 (KeepBut w wc g none) ∧ Aside0 (Below w0.heap.size w0 wc))
    case first =>
     have H := HC10.out
     clear HC10
     by_cases c20 : ((rd_T136 s0_0 s0_1).f0) = 4
     ·replace H := ipe c20 H
      obtain ⟨H, c20b0, c20b1⟩ := H
      clear c20
      (first | rw [c20b0] | (simp only [i64_w, i32_w]; rw [c20b0]) | skip)
      have H' := am H
      clear H
      have hnb21 := NB248_0.out
      have hnc21 := NB0_248.out
      obtain ⟨Z22_0, Z22_1, Z22_2, Z22_3, Z22_4, Z22_5, F22_0, F22_1, F22_2, F22_3, F22_4, F22_5⟩ := cz6 BK248.out
      go_wp2
      go_meet
      case rel => exact ⟨_, ((((rd_T136 s0_0 s0_1).f2).toList == a1.toList)), sz, H', ⟨oz⟩, ⟨bp BK248.out⟩, ⟨hz HI0.out⟩, ⟨kz HK.out⟩, ⟨bz HB.out⟩⟩
     replace H := ine c20 H
     obtain ⟨H, c20b0, c20b1⟩ := H
     (first | rw [c20b0] | (simp only [i64_w, i32_w]; rw [c20b0]) | skip)
     by_cases c23 : ((rd_T136 s0_0 s0_1).f0) = 5
     ·replace H := ipe c23 H
      obtain ⟨H, c23b0, c23b1⟩ := H
      clear c23
      have H' := am H
      clear H
      have hnb24 := NB248_0.out
      have hnc24 := NB0_248.out
      obtain ⟨Z25_0, Z25_1, Z25_2, Z25_3, Z25_4, Z25_5, F25_0, F25_1, F25_2, F25_3, F25_4, F25_5⟩ := cz6 BK248.out
      go_wp2
      go_meet
      case rel => exact ⟨_, ((((rd_T136 s0_0 s0_1).f2).toList == a1.toList)), sz, H', ⟨oz⟩, ⟨bp BK248.out⟩, ⟨hz HI0.out⟩, ⟨kz HK.out⟩, ⟨bz HB.out⟩⟩
     replace H := ine c23 H
     obtain ⟨H, c23b0, c23b1⟩ := H
     have H' := am H
     clear H
     have hnb26 := NB248_0.out
     have hnc26 := NB0_248.out
     obtain ⟨Z27_0, Z27_1, Z27_2, Z27_3, Z27_4, Z27_5, F27_0, F27_1, F27_2, F27_3, F27_4, F27_5⟩ := cz6 BK248.out
     go_wp2
     go_meet
     case rel => exact ⟨_, (false), sz, H', ⟨oz⟩, ⟨bp BK248.out⟩, ⟨hz HI0.out⟩, ⟨kz HK.out⟩, ⟨bz HB.out⟩⟩
    case rest =>
     clear HC10
     try clear c3; try clear c3b0; try clear c3b1; try clear c7; try clear c7b0; try clear c8; try clear c8b0; try clear c9; try clear c9b0; try clear Z12_0; try clear Z12_1; try clear Z12_2; try clear Z12_3; try clear Z12_4; try clear Z12_5; try clear Z6_0; try clear Z6_1; try clear Z6_2; try clear Z6_3; try clear Z6_4; try clear Z6_5; try clear F12_1; try clear F12_2; try clear F12_3; try clear F12_4; try clear F12_5; try clear F6_1; try clear F6_2; try clear F6_3; try clear F6_4; try clear F6_5; try clear hx247_0; try clear hx247_1; try clear hx247_2; try clear hx247_3; try clear hx247_4; try clear hx247_5; try clear p247; try clear q247
     obtain ⟨kq, x4_9, rfl, HA, HJ9, BK248, HI0, HK, HB⟩ := hcut
     cases kq with
     | zero => exact absurd HA.out (by simp [expr_Parser_Is.j0])
     | succ kj9 =>
      have H := HA.out
      clear HA
      simp only [expr_Parser_Is.j0] at H
      simp only [Option.some.injEq, Prod.mk.injEq] at H
      obtain ⟨rfl, rfl, rfl, rfl, rfl, rfl⟩ := H
      go_wp2
      go_ret
      exact ⟨az, hz HI0.out, bz HB.out, kz HK.out⟩
   rw [if_neg c9] at H
   exact absurd H (by simp)
  rw [if_neg c8] at H
  exact absurd H (by simp)
 replace H := ine c3 H
 obtain ⟨H, c3b0, c3b1⟩ := H
 simp only [Option.some.injEq, Prod.mk.injEq] at H
 obtain ⟨rfl, rfl, rfl, rfl, rfl, rfl⟩ := H
 go_enter Tryz.func107, Tryz.ntmps107
 try go_wp2
 replace HI0 := am (IsS63.drew HI0.out)
 replace HK := am (keep_drew HK.out)
 replace HB := am (below_drew1 HB.out)
 obtain ⟨ASz29_0, cSz29_0, HSz29_0, Z29_0, Z29_1, Z29_2, Z29_3, Z29_4, Z29_5, F29_1, F29_2, F29_3, F29_4, F29_5⟩ := open63 HI0.out
 refine start_ (n := 17) (S := fun w' => w'.cell? ⟨g, 0, none⟩ = some (.slice ASz29_0 s0_0.length cSz29_0) ∧ w'.cell? ⟨g, 1, none⟩ = some (.int .i64 s0_1) ∧ w'.cell? ⟨g, 2, none⟩ = some (.int .i64 s0_2) ∧ w'.cell? ⟨g, 3, none⟩ = some (.int .i64 s0_3) ∧ w'.cell? ⟨g, 4, none⟩ = some (.int .i64 s0_4) ∧ w'.cell? ⟨g, 5, none⟩ = some (.int .i64 s0_5)) (ds := []) (bts0 17) (by kernel_rfl) rfl rfl ⟨Z29_0, Z29_1, Z29_2, Z29_3, Z29_4, Z29_5⟩ (fun hHeld => ?_); refine with_tabW expr_Parser_Is.tab1 expr_Parser_Is.bits1 (fun HT_ HW_ => ?_)
 generalize w.drew = w28 at HI0 HK HB hHeld ⊢
 refine pu 0 (some 6) (bts 17 1) (any_of HT_.out (by kernel_rfl)) ?_
 refine pu 1 (some 7) (bts 17 3) (any_of HT_.out (by kernel_rfl)) ?_
 refine pu 2 (some 8) (bts 17 7) (any_of HT_.out (by kernel_rfl)) ?_
 refine ta 3 (some 9) (bts 17 15) (take_ofW HT_.out HW_.out (by kernel_rfl)) hHeld ?_
 refine pu 4 (some 10) (bts 17 31) (any_of HT_.out (by kernel_rfl)) ?_
 refine pu 5 (some 11) (bts 17 63) (any_of HT_.out (by kernel_rfl)) ?_
 refine pn 6 (some 12) (bts 17 127) (any_of HT_.out (by kernel_rfl)) ?_
 refine pn 7 (some 13) (bts 17 255) (any_of HT_.out (by kernel_rfl)) ?_
 refine pn 8 (some 14) (bts 17 511) (any_of HT_.out (by kernel_rfl)) ?_
 refine pn 9 (some 15) (bts 17 1023) (any_of HT_.out (by kernel_rfl)) ?_
 refine pn 10 (some 16) (bts 17 2047) (any_of HT_.out (by kernel_rfl)) ?_
 refine pn 11 (some 17) (bts 17 4095) (any_of HT_.out (by kernel_rfl)) ?_
 refine pn 12 (some 18) (bts 17 8191) (any_of HT_.out (by kernel_rfl)) ?_
 refine pn 13 (some 19) (bts 17 16383) (any_of HT_.out (by kernel_rfl)) ?_
 refine pn 14 (some 20) (bts 17 32767) (any_of HT_.out (by kernel_rfl)) ?_
 refine pn 15 (some 21) (bts 17 65535) (any_of HT_.out (by kernel_rfl)) ?_
 refine pu 16 (some 22) (bts 17 131071) (any_of HT_.out (by kernel_rfl)) ?_
 refine done_ (done_of HT_.out (by kernel_rfl)) ?_
 try go_wp2
 go_ret
 exact ⟨az, hz HI0.out, bz HB.out, kz HK.out⟩
end Go.Proofs.YtgkemhgihbfmmaaGreatDoor.PA
end
section
namespace Go.Proofs.YtgkemhgihbfmmaaGreatDoor.PA
open Go.RowKit Go.Proofs.YtgkemhgihbfmmaaGreatDoorW.PrintWords Go.Proofs.YtgkemhgihbfmmaaGreatDoorW.PrintLast Go.Proofs.YtgkemhgihbfmmaaGreatDoorW.PrintMore
attribute [local go_sem] max2_int min2_int max_two min_two max_three min_three max_four min_four isSome_set str_gtr
set_option linter.unusedVariables false
set_option linter.unusedSimpArgs false
def expr_Parser_Take.f (k : Nat) (s0_0 : List (S136)) (s0_1 s0_2 s0_3 s0_4 s0_5 : Int) (a1 : ByteArray) : Option (Bool × Int × Int × Int × Int × Int) := (expr_Parser_Is.f k s0_0 s0_1 s0_2 s0_3 s0_4 s0_5 a1).bind fun bt249 => (if bt249.1 = true then (some (true, wrap64 (bt249.2.1 + 1), bt249.2.2.1, bt249.2.2.2.1, bt249.2.2.2.2.1, bt249.2.2.2.2.2)) else (some (false, bt249.2.1, bt249.2.2.1, bt249.2.2.2.1, bt249.2.2.2.2.1, bt249.2.2.2.2.2)))
theorem expr_Parser_Take.mono : ∀ a0 a1 a2 a3 a4 a5 a6 k, LeO (expr_Parser_Take.f k a0 a1 a2 a3 a4 a5 a6) (expr_Parser_Take.f (k + 1) a0 a1 a2 a3 a4 a5 a6) := by
 intro a0 a1 a2 a3 a4 a5 a6 k
 unfold expr_Parser_Take.f
 have q0 := @expr_Parser_Is.mono; exact lmo
set_option maxHeartbeats 8000000 in
set_option maxRecDepth 100000 in
theorem expr_Parser_Take.calls (k : Nat) (g : Nat) (s0_0 : List (S136)) (s0_1 s0_2 s0_3 s0_4 s0_5 : Int) (a1 : ByteArray) (r1 : Bool) (r2 r3 r4 r5 r6 : Int) (w0 w : World) (hI : IsS63 w0 w g s0_0 s0_1 s0_2 s0_3 s0_4 s0_5) (hB : Below w0.heap.size w0 w) (h : expr_Parser_Take.f k s0_0 s0_1 s0_2 s0_3 s0_4 s0_5 a1 = some (r1, r2, r3, r4, r5, r6)) :
  Calls Tryz.prog 63 #[.pointer (some ⟨g, 0, none⟩), .string a1] w fun e w' => e = .returned (.bool r1) ∧ IsS63 w0 w' g s0_0 r2 r3 r4 r5 r6 ∧ Below w0.heap.size w0 w' ∧ KeepBut w w' g none := by
 have HI0 := am hI
 have HK := am (KeepBut.refl w g none)
 have HL := am hB.size
 clear hI
 have HW0 := am hB.size
 have HB := am hB
 clear hB
 have H : ((expr_Parser_Is.f k s0_0 s0_1 s0_2 s0_3 s0_4 s0_5 a1).bind fun bt249 => (if bt249.1 = true then (some (true, wrap64 (bt249.2.1 + 1), bt249.2.2.1, bt249.2.2.2.1, bt249.2.2.2.2.1, bt249.2.2.2.2.2)) else (some (false, bt249.2.1, bt249.2.2.1, bt249.2.2.2.1, bt249.2.2.2.2.1, bt249.2.2.2.2.2)))) = some (r1, r2, r3, r4, r5, r6) := h
 clear h
 replace H := obe6 H
 obtain ⟨t249, t250, t251, t252, t253, t254, A3, H⟩ := H
 have HC4 := am H
 clear H
 go_enter Tryz.func63, Tryz.ntmps63
 go_upto_if 8 with (first | ((with_reducible refine gate_callee (f := 107) rfl ?_); refine gl_ (some 7) Tryz.func107 (by kernel_rfl) #[.pointer (some ⟨g, 0, none⟩), .string a1] rfl ?_; (with_reducible refine (expr_Parser_Is.calls k g s0_0 s0_1 s0_2 s0_3 s0_4 s0_5 a1 t249 t250 t251 t252 t253 t254 w0 _ ?side1 ?side2 A3.out).mono ?_); (case side1 => exact hz HI0.out); (case side2 => exact bz HB.out); rintro e w5 ⟨rfl, hi, hb, hk⟩; refine ⟨_, rfl, ?_⟩; replace HK := am (KeepBut.trans (kz HK.out) hk (.inl rfl)); replace HB := am (hb); replace HI0 := am (hi); clear hb hk hi))
 (try simp only [Act.put, List.setIfInBounds_toArray, List.set_cons_zero, List.set_cons_succ])
 have H := HC4.out
 clear HC4
 by_cases c6 : t249 = true
 ·subst c6
  replace H := ift H
  simp only [Option.some.injEq, Prod.mk.injEq] at H
  obtain ⟨rfl, rfl, rfl, rfl, rfl, rfl⟩ := H
  obtain ⟨ASz7_0, cSz7_0, HSz7_0, Z7_0, Z7_1, Z7_2, Z7_3, Z7_4, Z7_5, F7_1, F7_2, F7_3, F7_4, F7_5⟩ := open63 HI0.out
  go_wp2
  go_ret
  exact ⟨az, hz HI0.out, bz HB.out, kz HK.out⟩
 replace c6 := Bool.eq_false_iff.mpr c6
 subst c6
 replace H := iff_ H
 simp only [Option.some.injEq, Prod.mk.injEq] at H
 obtain ⟨rfl, rfl, rfl, rfl, rfl, rfl⟩ := H
 go_wp2
 go_ret
 exact ⟨az, hz HI0.out, bz HB.out, kz HK.out⟩
end Go.Proofs.YtgkemhgihbfmmaaGreatDoor.PA
end
section
namespace Go.Proofs.YtgkemhgihbfmmaaGreatDoor.PA
open Go.RowKit Go.Proofs.YtgkemhgihbfmmaaGreatDoorW.PrintWords Go.Proofs.YtgkemhgihbfmmaaGreatDoorW.PrintLast Go.Proofs.YtgkemhgihbfmmaaGreatDoorW.PrintMore
attribute [local go_sem] max2_int min2_int max_two min_two max_three min_three max_four min_four isSome_set str_gtr
set_option linter.unusedVariables false
set_option linter.unusedSimpArgs false
def expr_Parser_make.f (s0_0 : List (S136)) (s0_1 s0_2 s0_3 s0_4 s0_5 a1 : Int) (l2 : List (S31)) : Option (Int × Int × Int × Int × ByteArray × Int × ByteArray × (List (S31)) × Int × Int × Int × Int × Int) := if (wrap64 (s0_5 + 1)) > 4096 then (none) else (some (a1, 0, 0, 0, (⟨#[]⟩ : ByteArray), 0, (⟨#[]⟩ : ByteArray), l2, s0_1, s0_2, s0_3, s0_4, wrap64 (s0_5 + 1)))
set_option maxHeartbeats 8000000 in
set_option maxRecDepth 100000 in
theorem expr_Parser_make.calls (g : Nat) (s0_0 : List (S136)) (s0_1 s0_2 s0_3 s0_4 s0_5 a1 : Int) (P2_ : Nat → Prop) (A2 : Option Addr) (c2 : Nat) (l2 : List (S31)) (r1 r2 r3 r4 : Int) (r5 : ByteArray) (r6 : Int) (r7 : ByteArray) (r8 : List (S31)) (r9 r10 r11 r12 r13 : Int) (w0 w : World) (hI : IsS63 w0 w g s0_0 s0_1 s0_2 s0_3 s0_4 s0_5) (hB : Below w0.heap.size w0 w) (hs2 : Kd.V k31 31 w w.heap.size (fun k_ => P2_ k_ ∧ k_ ≠ g) (.slice A2 l2.length c2) l2) (h : expr_Parser_make.f s0_0 s0_1 s0_2 s0_3 s0_4 s0_5 a1 l2 = some (r1, r2, r3, r4, r5, r6, r7, r8, r9, r10, r11, r12, r13)) :
  Calls Tryz.prog 66 #[.pointer (some ⟨g, 0, none⟩), .int .i64 a1, .slice A2 l2.length c2] w fun e w' => ∃ v7_ : Value, e = .returned (.agg #[.int .i64 r1, .int .i64 r2, .int .i64 r3, .int .i64 r4, .string r5, .int .i64 r6, .string r7, v7_]) ∧ Kd.V k31 31 w' w.heap.size (fun k_ => (P2_ k_ ∨ w.heap.size ≤ k_)) v7_ r8 ∧ IsS63 w0 w' g s0_0 r9 r10 r11 r12 r13 ∧ Below w0.heap.size w0 w' ∧ KeepBut w w' g none := by
 have hu31 := Tryz.underlying31
 have HO2 := am (show Kd.V k31 31 w w.heap.size (fun k_ => (P2_ k_ ∨ w.heap.size ≤ k_) ∧ k_ ≠ g) (.slice A2 l2.length c2) l2 from Kd.V_mono hs2 (fun k_ hk => ⟨.inl hk.1, hk.2⟩))
 have HI0 := am hI
 have HK := am (KeepBut.refl w g none)
 have HL := am hB.size
 clear hI
 have HW0 := am hB.size
 have HB := am hB
 clear hB
 have H : (if (wrap64 (s0_5 + 1)) > 4096 then (none) else (some (a1, 0, 0, 0, (⟨#[]⟩ : ByteArray), 0, (⟨#[]⟩ : ByteArray), l2, s0_1, s0_2, s0_3, s0_4, wrap64 (s0_5 + 1)))) = some (r1, r2, r3, r4, r5, r6, r7, r8, r9, r10, r11, r12, r13) := h
 clear h
 by_cases c4 : (wrap64 (s0_5 + 1)) > 4096
 ·rw [if_pos c4] at H
  exact absurd H (by simp)
 rw [if_neg c4] at H
 have c4b0 : decide (4096 < (wrap64 (s0_5 + 1))) = false := decide_eq_false c4
 clear c4
 simp only [Option.some.injEq, Prod.mk.injEq] at H
 obtain ⟨rfl, rfl, rfl, rfl, rfl, rfl, rfl, rfl, rfl, rfl, rfl, rfl, rfl⟩ := H
 go_enter Tryz.func66, Tryz.ntmps66
 go_wp2_with (first | ((with_reducible refine gate_dst (N := 6) rfl ?_); refine bev (#[.int .i64 0, .int .i64 0, .int .i64 0, .int .i64 0, .string (⟨#[]⟩ : ByteArray), .int .i64 0, .string (⟨#[]⟩ : ByteArray), .slice none 0 0]) 31 ?_; intro gb255 hg w5 hbox hb; replace HO2 := am (Kd.V_below (Kd.V_elderB (vv HO2.out) gb255 (Nat.le_of_eq hg.symm)) hb); replace HB := sb HB hb; have BK255 := am (hbox); have GW255 := gk hg HK; have GE255 := am (Nat.le_trans HW0.out GW255.out); replace HK := am (KeepBut.trans (kz HK.out) (KeepBut.of_below hb g none) (.inl rfl)); have NB0_255 := am ((nlt (a := g) hg (IsS63.lt (show IsS63 w0 _ g s0_0 s0_1 s0_2 s0_3 s0_4 s0_5 from hz HI0.out)))); have NB255_0 := am ((ngt (a := g) hg (IsS63.lt (show IsS63 w0 _ g s0_0 s0_1 s0_2 s0_3 s0_4 s0_5 from hz HI0.out)))); replace HI0 := am (IsS63.below (hz HI0.out) hb); clear hb hbox hg; obtain ⟨ASz6_0, cSz6_0, HSz6_0, Z6_0, Z6_1, Z6_2, Z6_3, Z6_4, Z6_5, F6_1, F6_2, F6_3, F6_4, F6_5⟩ := open63 HI0.out; have hnb7 := NB255_0.out; have hnc7 := NB0_255.out; obtain ⟨Z8_0, Z8_1, Z8_2, Z8_3, Z8_4, Z8_5, Z8_6, Z8_7, F8_0, F8_1, F8_2, F8_3, F8_4, F8_5, F8_6, F8_7⟩ := cz8 BK255.out))
 refine bodyPost_ret (results_cell_row rfl _ _ gb255 31 #[.int .i64 a1, .int .i64 0, .int .i64 0, .int .i64 0, .string (⟨#[]⟩ : ByteArray), .int .i64 0, .string (⟨#[]⟩ : ByteArray), .slice A2 l2.length c2] (0, 0) _ rfl (bp BK255.out) Tryz.underlying31 rfl (by kernel_rfl)) rfl ?_
 exact ⟨_, az, by (with_reducible repeat (first | apply Kd.V_alloc | apply Kd.V_drewN | apply Kd.V_drew)); exact Kd.V_mono (Kd.V_far (p := ⟨gb255, 7, none⟩) (Kd.V_far (p := ⟨gb255, 6, none⟩) (Kd.V_far (p := ⟨gb255, 5, none⟩) (Kd.V_far (p := ⟨gb255, 4, none⟩) (Kd.V_far (p := ⟨gb255, 3, none⟩) (Kd.V_far (p := ⟨gb255, 2, none⟩) (Kd.V_far (p := ⟨gb255, 1, none⟩) (Kd.V_far (p := ⟨gb255, 0, none⟩) (Kd.V_far (p := ⟨g, 5, none⟩) (Kd.V_mono (Kd.V_mono HO2.out (fun k_ hk => (⟨hk, hk.1.2⟩ : _ ∧ k_ ≠ g))) (fun k_ hk => (⟨hk, hk.1.2⟩ : _ ∧ k_ ≠ gb255))) (fun _ hk => hk.1.2) (.int .i64 (wrap64 (s0_5 + 1)))) (fun _ hk => hk.2) (.int .i64 a1)) (fun _ hk => hk.2) (.int .i64 0)) (fun _ hk => hk.2) (.int .i64 0)) (fun _ hk => hk.2) (.int .i64 0)) (fun _ hk => hk.2) (.string (⟨#[]⟩ : ByteArray))) (fun _ hk => hk.2) (.int .i64 0)) (fun _ hk => hk.2) (.string (⟨#[]⟩ : ByteArray))) (fun _ hk => hk.2) (.slice A2 l2.length c2)) (fun _ hk => hk.1.1.1.1), hz HI0.out, bz HB.out, kz HK.out⟩
end Go.Proofs.YtgkemhgihbfmmaaGreatDoor.PA
end
section
namespace Go.Proofs.YtgkemhgihbfmmaaGreatDoor.PA
open Go.RowKit Go.Proofs.YtgkemhgihbfmmaaGreatDoorW.PrintWords Go.Proofs.YtgkemhgihbfmmaaGreatDoorW.PrintLast Go.Proofs.YtgkemhgihbfmmaaGreatDoorW.PrintMore
attribute [local go_sem] max2_int min2_int max_two min_two max_three min_three max_four min_four isSome_set str_gtr
set_option linter.unusedVariables false
set_option linter.unusedSimpArgs false
def expr_levels.f  : Option ((List (S143))) := some (([(⟨(([(⟨#[111, 114]⟩ : ByteArray)] : List ByteArray)), (([15] : List Int)), false⟩ : S143), (⟨(([(⟨#[97, 110, 100]⟩ : ByteArray)] : List ByteArray)), (([14] : List Int)), false⟩ : S143), (⟨(([(⟨#[61]⟩ : ByteArray), (⟨#[33, 61]⟩ : ByteArray), (⟨#[60]⟩ : ByteArray), (⟨#[60, 61]⟩ : ByteArray), (⟨#[62]⟩ : ByteArray), (⟨#[62, 61]⟩ : ByteArray)] : List ByteArray)), (([8, 9, 10, 11, 12, 13] : List Int)), true⟩ : S143), (⟨(([(⟨#[43]⟩ : ByteArray), (⟨#[45]⟩ : ByteArray)] : List ByteArray)), (([4, 5] : List Int)), false⟩ : S143), (⟨(([(⟨#[42]⟩ : ByteArray), (⟨#[47]⟩ : ByteArray)] : List ByteArray)), (([6, 7] : List Int)), false⟩ : S143)] : List (S143)))
set_option maxHeartbeats 8000000 in
set_option maxRecDepth 100000 in
theorem expr_levels.calls  (r : List (S143)) (w : World) (h : expr_levels.f  = some r) :
  Calls Tryz.prog 108 #[] w fun e w' => ∃ v0_ : Value, e = .returned (v0_) ∧ Kd.N k143 143 w' w.heap.size (fun k_ => (w.heap.size ≤ k_)) v0_ r ∧ Below w.heap.size w w' := by
 have hu143 := Tryz.underlying143
 have HB := am (Below.refl w.heap.size w)
 have H : (some (([(⟨(([(⟨#[111, 114]⟩ : ByteArray)] : List ByteArray)), (([15] : List Int)), false⟩ : S143), (⟨(([(⟨#[97, 110, 100]⟩ : ByteArray)] : List ByteArray)), (([14] : List Int)), false⟩ : S143), (⟨(([(⟨#[61]⟩ : ByteArray), (⟨#[33, 61]⟩ : ByteArray), (⟨#[60]⟩ : ByteArray), (⟨#[60, 61]⟩ : ByteArray), (⟨#[62]⟩ : ByteArray), (⟨#[62, 61]⟩ : ByteArray)] : List ByteArray)), (([8, 9, 10, 11, 12, 13] : List Int)), true⟩ : S143), (⟨(([(⟨#[43]⟩ : ByteArray), (⟨#[45]⟩ : ByteArray)] : List ByteArray)), (([4, 5] : List Int)), false⟩ : S143), (⟨(([(⟨#[42]⟩ : ByteArray), (⟨#[47]⟩ : ByteArray)] : List ByteArray)), (([6, 7] : List Int)), false⟩ : S143)] : List (S143)))) = some r := h
 clear h
 obtain ⟨y256, hy256⟩ : ∃ y_ : List ByteArray, y_ = (([(⟨#[111, 114]⟩ : ByteArray)] : List ByteArray)) := ⟨_, rfl⟩
 replace H : (some (([(⟨y256, (([15] : List Int)), false⟩ : S143), (⟨(([(⟨#[97, 110, 100]⟩ : ByteArray)] : List ByteArray)), (([14] : List Int)), false⟩ : S143), (⟨(([(⟨#[61]⟩ : ByteArray), (⟨#[33, 61]⟩ : ByteArray), (⟨#[60]⟩ : ByteArray), (⟨#[60, 61]⟩ : ByteArray), (⟨#[62]⟩ : ByteArray), (⟨#[62, 61]⟩ : ByteArray)] : List ByteArray)), (([8, 9, 10, 11, 12, 13] : List Int)), true⟩ : S143), (⟨(([(⟨#[43]⟩ : ByteArray), (⟨#[45]⟩ : ByteArray)] : List ByteArray)), (([4, 5] : List Int)), false⟩ : S143), (⟨(([(⟨#[42]⟩ : ByteArray), (⟨#[47]⟩ : ByteArray)] : List ByteArray)), (([6, 7] : List Int)), false⟩ : S143)] : List (S143)))) = some r := by first | (rw [hy256]; with_reducible exact H) | (have H2_ := (Option.bind_some _ _).symm.trans H; rw [hy256]; with_reducible exact H2_) | (have H2_ := (Option.bind_some _ _).symm.trans H; with_reducible exact H2_) | with_reducible exact H | (rw [hy256]; exact H) | exact H
 have Ny256 := am hy256
 clear hy256
 obtain ⟨y259, hy259⟩ : ∃ y_ : List Int, y_ = (([15] : List Int)) := ⟨_, rfl⟩
 replace H : (some (([(⟨y256, y259, false⟩ : S143), (⟨(([(⟨#[97, 110, 100]⟩ : ByteArray)] : List ByteArray)), (([14] : List Int)), false⟩ : S143), (⟨(([(⟨#[61]⟩ : ByteArray), (⟨#[33, 61]⟩ : ByteArray), (⟨#[60]⟩ : ByteArray), (⟨#[60, 61]⟩ : ByteArray), (⟨#[62]⟩ : ByteArray), (⟨#[62, 61]⟩ : ByteArray)] : List ByteArray)), (([8, 9, 10, 11, 12, 13] : List Int)), true⟩ : S143), (⟨(([(⟨#[43]⟩ : ByteArray), (⟨#[45]⟩ : ByteArray)] : List ByteArray)), (([4, 5] : List Int)), false⟩ : S143), (⟨(([(⟨#[42]⟩ : ByteArray), (⟨#[47]⟩ : ByteArray)] : List ByteArray)), (([6, 7] : List Int)), false⟩ : S143)] : List (S143)))) = some r := by first | (rw [hy259]; with_reducible exact H) | (have H2_ := (Option.bind_some _ _).symm.trans H; rw [hy259]; with_reducible exact H2_) | (have H2_ := (Option.bind_some _ _).symm.trans H; with_reducible exact H2_) | with_reducible exact H | (rw [hy259]; exact H) | exact H
 have Ny259 := am hy259
 clear hy259
 obtain ⟨y262, hy262⟩ : ∃ y_ : List ByteArray, y_ = (([(⟨#[97, 110, 100]⟩ : ByteArray)] : List ByteArray)) := ⟨_, rfl⟩
 replace H : (some (([(⟨y256, y259, false⟩ : S143), (⟨y262, (([14] : List Int)), false⟩ : S143), (⟨(([(⟨#[61]⟩ : ByteArray), (⟨#[33, 61]⟩ : ByteArray), (⟨#[60]⟩ : ByteArray), (⟨#[60, 61]⟩ : ByteArray), (⟨#[62]⟩ : ByteArray), (⟨#[62, 61]⟩ : ByteArray)] : List ByteArray)), (([8, 9, 10, 11, 12, 13] : List Int)), true⟩ : S143), (⟨(([(⟨#[43]⟩ : ByteArray), (⟨#[45]⟩ : ByteArray)] : List ByteArray)), (([4, 5] : List Int)), false⟩ : S143), (⟨(([(⟨#[42]⟩ : ByteArray), (⟨#[47]⟩ : ByteArray)] : List ByteArray)), (([6, 7] : List Int)), false⟩ : S143)] : List (S143)))) = some r := by first | (rw [hy262]; with_reducible exact H) | (have H2_ := (Option.bind_some _ _).symm.trans H; rw [hy262]; with_reducible exact H2_) | (have H2_ := (Option.bind_some _ _).symm.trans H; with_reducible exact H2_) | with_reducible exact H | (rw [hy262]; exact H) | exact H
 have Ny262 := am hy262
 clear hy262
 obtain ⟨y265, hy265⟩ : ∃ y_ : List Int, y_ = (([14] : List Int)) := ⟨_, rfl⟩
 replace H : (some (([(⟨y256, y259, false⟩ : S143), (⟨y262, y265, false⟩ : S143), (⟨(([(⟨#[61]⟩ : ByteArray), (⟨#[33, 61]⟩ : ByteArray), (⟨#[60]⟩ : ByteArray), (⟨#[60, 61]⟩ : ByteArray), (⟨#[62]⟩ : ByteArray), (⟨#[62, 61]⟩ : ByteArray)] : List ByteArray)), (([8, 9, 10, 11, 12, 13] : List Int)), true⟩ : S143), (⟨(([(⟨#[43]⟩ : ByteArray), (⟨#[45]⟩ : ByteArray)] : List ByteArray)), (([4, 5] : List Int)), false⟩ : S143), (⟨(([(⟨#[42]⟩ : ByteArray), (⟨#[47]⟩ : ByteArray)] : List ByteArray)), (([6, 7] : List Int)), false⟩ : S143)] : List (S143)))) = some r := by first | (rw [hy265]; with_reducible exact H) | (have H2_ := (Option.bind_some _ _).symm.trans H; rw [hy265]; with_reducible exact H2_) | (have H2_ := (Option.bind_some _ _).symm.trans H; with_reducible exact H2_) | with_reducible exact H | (rw [hy265]; exact H) | exact H
 have Ny265 := am hy265
 clear hy265
 obtain ⟨y268, hy268⟩ : ∃ y_ : List ByteArray, y_ = (([(⟨#[61]⟩ : ByteArray), (⟨#[33, 61]⟩ : ByteArray), (⟨#[60]⟩ : ByteArray), (⟨#[60, 61]⟩ : ByteArray), (⟨#[62]⟩ : ByteArray), (⟨#[62, 61]⟩ : ByteArray)] : List ByteArray)) := ⟨_, rfl⟩
 replace H : (some (([(⟨y256, y259, false⟩ : S143), (⟨y262, y265, false⟩ : S143), (⟨y268, (([8, 9, 10, 11, 12, 13] : List Int)), true⟩ : S143), (⟨(([(⟨#[43]⟩ : ByteArray), (⟨#[45]⟩ : ByteArray)] : List ByteArray)), (([4, 5] : List Int)), false⟩ : S143), (⟨(([(⟨#[42]⟩ : ByteArray), (⟨#[47]⟩ : ByteArray)] : List ByteArray)), (([6, 7] : List Int)), false⟩ : S143)] : List (S143)))) = some r := by first | (rw [hy268]; with_reducible exact H) | (have H2_ := (Option.bind_some _ _).symm.trans H; rw [hy268]; with_reducible exact H2_) | (have H2_ := (Option.bind_some _ _).symm.trans H; with_reducible exact H2_) | with_reducible exact H | (rw [hy268]; exact H) | exact H
 have Ny268 := am hy268
 clear hy268
 obtain ⟨y271, hy271⟩ : ∃ y_ : List Int, y_ = (([8, 9, 10, 11, 12, 13] : List Int)) := ⟨_, rfl⟩
 replace H : (some (([(⟨y256, y259, false⟩ : S143), (⟨y262, y265, false⟩ : S143), (⟨y268, y271, true⟩ : S143), (⟨(([(⟨#[43]⟩ : ByteArray), (⟨#[45]⟩ : ByteArray)] : List ByteArray)), (([4, 5] : List Int)), false⟩ : S143), (⟨(([(⟨#[42]⟩ : ByteArray), (⟨#[47]⟩ : ByteArray)] : List ByteArray)), (([6, 7] : List Int)), false⟩ : S143)] : List (S143)))) = some r := by first | (rw [hy271]; with_reducible exact H) | (have H2_ := (Option.bind_some _ _).symm.trans H; rw [hy271]; with_reducible exact H2_) | (have H2_ := (Option.bind_some _ _).symm.trans H; with_reducible exact H2_) | with_reducible exact H | (rw [hy271]; exact H) | exact H
 have Ny271 := am hy271
 clear hy271
 obtain ⟨y274, hy274⟩ : ∃ y_ : List ByteArray, y_ = (([(⟨#[43]⟩ : ByteArray), (⟨#[45]⟩ : ByteArray)] : List ByteArray)) := ⟨_, rfl⟩
 replace H : (some (([(⟨y256, y259, false⟩ : S143), (⟨y262, y265, false⟩ : S143), (⟨y268, y271, true⟩ : S143), (⟨y274, (([4, 5] : List Int)), false⟩ : S143), (⟨(([(⟨#[42]⟩ : ByteArray), (⟨#[47]⟩ : ByteArray)] : List ByteArray)), (([6, 7] : List Int)), false⟩ : S143)] : List (S143)))) = some r := by first | (rw [hy274]; with_reducible exact H) | (have H2_ := (Option.bind_some _ _).symm.trans H; rw [hy274]; with_reducible exact H2_) | (have H2_ := (Option.bind_some _ _).symm.trans H; with_reducible exact H2_) | with_reducible exact H | (rw [hy274]; exact H) | exact H
 have Ny274 := am hy274
 clear hy274
 obtain ⟨y277, hy277⟩ : ∃ y_ : List Int, y_ = (([4, 5] : List Int)) := ⟨_, rfl⟩
 replace H : (some (([(⟨y256, y259, false⟩ : S143), (⟨y262, y265, false⟩ : S143), (⟨y268, y271, true⟩ : S143), (⟨y274, y277, false⟩ : S143), (⟨(([(⟨#[42]⟩ : ByteArray), (⟨#[47]⟩ : ByteArray)] : List ByteArray)), (([6, 7] : List Int)), false⟩ : S143)] : List (S143)))) = some r := by first | (rw [hy277]; with_reducible exact H) | (have H2_ := (Option.bind_some _ _).symm.trans H; rw [hy277]; with_reducible exact H2_) | (have H2_ := (Option.bind_some _ _).symm.trans H; with_reducible exact H2_) | with_reducible exact H | (rw [hy277]; exact H) | exact H
 have Ny277 := am hy277
 clear hy277
 obtain ⟨y280, hy280⟩ : ∃ y_ : List ByteArray, y_ = (([(⟨#[42]⟩ : ByteArray), (⟨#[47]⟩ : ByteArray)] : List ByteArray)) := ⟨_, rfl⟩
 replace H : (some (([(⟨y256, y259, false⟩ : S143), (⟨y262, y265, false⟩ : S143), (⟨y268, y271, true⟩ : S143), (⟨y274, y277, false⟩ : S143), (⟨y280, (([6, 7] : List Int)), false⟩ : S143)] : List (S143)))) = some r := by first | (rw [hy280]; with_reducible exact H) | (have H2_ := (Option.bind_some _ _).symm.trans H; rw [hy280]; with_reducible exact H2_) | (have H2_ := (Option.bind_some _ _).symm.trans H; with_reducible exact H2_) | with_reducible exact H | (rw [hy280]; exact H) | exact H
 have Ny280 := am hy280
 clear hy280
 obtain ⟨y283, hy283⟩ : ∃ y_ : List Int, y_ = (([6, 7] : List Int)) := ⟨_, rfl⟩
 replace H : (some (([(⟨y256, y259, false⟩ : S143), (⟨y262, y265, false⟩ : S143), (⟨y268, y271, true⟩ : S143), (⟨y274, y277, false⟩ : S143), (⟨y280, y283, false⟩ : S143)] : List (S143)))) = some r := by first | (rw [hy283]; with_reducible exact H) | (have H2_ := (Option.bind_some _ _).symm.trans H; rw [hy283]; with_reducible exact H2_) | (have H2_ := (Option.bind_some _ _).symm.trans H; with_reducible exact H2_) | with_reducible exact H | (rw [hy283]; exact H) | exact H
 have Ny283 := am hy283
 clear hy283
 obtain ⟨y286, hy286⟩ : ∃ y_ : List (S143), y_ = (([(⟨y256, y259, false⟩ : S143), (⟨y262, y265, false⟩ : S143), (⟨y268, y271, true⟩ : S143), (⟨y274, y277, false⟩ : S143), (⟨y280, y283, false⟩ : S143)] : List (S143))) := ⟨_, rfl⟩
 replace H : (some y286) = some r := by first | (rw [hy286]; with_reducible exact H) | (have H2_ := (Option.bind_some _ _).symm.trans H; rw [hy286]; with_reducible exact H2_) | (have H2_ := (Option.bind_some _ _).symm.trans H; with_reducible exact H2_) | with_reducible exact H | (rw [hy286]; exact H) | exact H
 have Ny286 := am hy286
 clear hy286
 obtain rfl := Option.some.inj H
 go_enter Tryz.func108, Tryz.ntmps108
 go_wp2_with (first | ((with_reducible refine gate_dst (N := 1) rfl ?_); refine rlit Kd.string 9 ([(⟨#[111, 114]⟩ : ByteArray)] : List ByteArray) [.string (⟨#[111, 114]⟩ : ByteArray)] ?_ (Below.refl _ _) (Nat.le_refl _) (r1s (Reps.none _ _)); intro v257 w1 ho2 hb hg_ hnew_; clear hg_ hnew_; (first | rw [← Ny256.out] at ho2 | (simp only [Int.reduceToNat] at ho2; rw [← Ny256.out] at ho2)); have HO258 := am (Kd.R_lower (Kd.R_newM (M := fun k_ => (w.heap.size ≤ k_)) ho2 (below_size (bz HB.out)) (fun k_ h_ => h_)) (below_size (bz HB.out))); replace HB := sb HB hb; clear hb ho2) | ((with_reducible refine gate_dst (N := 2) rfl ?_); refine rlit (Kd.int .i64) 3 ([15] : List Int) [.int .i64 15] ?_ (Below.refl _ _) (Nat.le_refl _) (r1i (Reps.none _ _)); intro v260 w3 ho4 hb hg_ hnew_; clear hg_ hnew_; (first | rw [← Ny259.out] at ho4 | (simp only [Int.reduceToNat] at ho4; rw [← Ny259.out] at ho4)); replace HO258 := am (Kd.R_below (rr HO258.out) hb); have HO261 := am (Kd.R_lower (Kd.R_newM (M := fun k_ => (w.heap.size ≤ k_)) ho4 (below_size (bz HB.out)) (fun k_ h_ => h_)) (below_size (bz HB.out))); replace HB := sb HB hb; clear hb ho4; obtain ⟨Ao5, co5, eo5⟩ := Kd.R_slice HO261.out; subst eo5; obtain ⟨Ao6, co6, eo6⟩ := Kd.R_slice HO258.out; subst eo6) | ((with_reducible refine gate_dst (N := 4) rfl ?_); refine rlit Kd.string 9 ([(⟨#[97, 110, 100]⟩ : ByteArray)] : List ByteArray) [.string (⟨#[97, 110, 100]⟩ : ByteArray)] ?_ (Below.refl _ _) (Nat.le_refl _) (r1s (Reps.none _ _)); intro v263 w7 ho8 hb hg_ hnew_; clear hg_ hnew_; (first | rw [← Ny262.out] at ho8 | (simp only [Int.reduceToNat] at ho8; rw [← Ny262.out] at ho8)); replace HO261 := am (Kd.R_below (rr HO261.out) hb); have HO264 := am (Kd.R_lower (Kd.R_new' (Kd.R_newM (M := fun k_ => (w.heap.size ≤ k_)) ho8 (below_size (bz HB.out)) (fun k_ h_ => h_)) (Kd.R_lt (rr HO258.out))) (below_size (bz HB.out))); replace HO258 := am (Kd.R_elder' (rr HO258.out) (Kd.R_base ho8) hb); replace HB := sb HB hb; clear hb ho8) | ((with_reducible refine gate_dst (N := 5) rfl ?_); refine rlit (Kd.int .i64) 3 ([14] : List Int) [.int .i64 14] ?_ (Below.refl _ _) (Nat.le_refl _) (r1i (Reps.none _ _)); intro v266 w9 ho10 hb hg_ hnew_; clear hg_ hnew_; (first | rw [← Ny265.out] at ho10 | (simp only [Int.reduceToNat] at ho10; rw [← Ny265.out] at ho10)); replace HO258 := am (Kd.R_below (rr HO258.out) hb); replace HO264 := am (Kd.R_below (rr HO264.out) hb); have HO267 := am (Kd.R_lower (Kd.R_new' (Kd.R_newM (M := fun k_ => (w.heap.size ≤ k_)) ho10 (below_size (bz HB.out)) (fun k_ h_ => h_)) (Kd.R_lt (rr HO261.out))) (below_size (bz HB.out))); replace HO261 := am (Kd.R_elder' (rr HO261.out) (Kd.R_base ho10) hb); replace HB := sb HB hb; clear hb ho10; obtain ⟨Ao11, co11, eo11⟩ := Kd.R_slice HO267.out; subst eo11; obtain ⟨Ao12, co12, eo12⟩ := Kd.R_slice HO264.out; subst eo12) | ((with_reducible refine gate_dst (N := 7) rfl ?_); refine rlit Kd.string 9 ([(⟨#[61]⟩ : ByteArray), (⟨#[33, 61]⟩ : ByteArray), (⟨#[60]⟩ : ByteArray), (⟨#[60, 61]⟩ : ByteArray), (⟨#[62]⟩ : ByteArray), (⟨#[62, 61]⟩ : ByteArray)] : List ByteArray) [.string (⟨#[61]⟩ : ByteArray), .string (⟨#[33, 61]⟩ : ByteArray), .string (⟨#[60]⟩ : ByteArray), .string (⟨#[60, 61]⟩ : ByteArray), .string (⟨#[62]⟩ : ByteArray), .string (⟨#[62, 61]⟩ : ByteArray)] ?_ (Below.refl _ _) (Nat.le_refl _) (r1s (r1s (r1s (r1s (r1s (r1s (Reps.none _ _))))))); intro v269 w13 ho14 hb hg_ hnew_; clear hg_ hnew_; (first | rw [← Ny268.out] at ho14 | (simp only [Int.reduceToNat] at ho14; rw [← Ny268.out] at ho14)); replace HO261 := am (Kd.R_below (rr HO261.out) hb); replace HO267 := am (Kd.R_below (rr HO267.out) hb); have HO270 := am (Kd.R_lower (Kd.R_new' (Kd.R_new' (Kd.R_newM (M := fun k_ => (w.heap.size ≤ k_)) ho14 (below_size (bz HB.out)) (fun k_ h_ => h_)) (Kd.R_lt (rr HO258.out))) (Kd.R_lt (rr HO264.out))) (below_size (bz HB.out))); replace HO258 := am (Kd.R_elder' (rr HO258.out) (Kd.R_base ho14) hb); replace HO264 := am (Kd.R_elder' (rr HO264.out) (Kd.R_base ho14) hb); replace HB := sb HB hb; clear hb ho14) | ((with_reducible refine gate_dst (N := 8) rfl ?_); refine rlit (Kd.int .i64) 3 ([8, 9, 10, 11, 12, 13] : List Int) [.int .i64 8, .int .i64 9, .int .i64 10, .int .i64 11, .int .i64 12, .int .i64 13] ?_ (Below.refl _ _) (Nat.le_refl _) (r1i (r1i (r1i (r1i (r1i (r1i (Reps.none _ _))))))); intro v272 w15 ho16 hb hg_ hnew_; clear hg_ hnew_; (first | rw [← Ny271.out] at ho16 | (simp only [Int.reduceToNat] at ho16; rw [← Ny271.out] at ho16)); replace HO258 := am (Kd.R_below (rr HO258.out) hb); replace HO264 := am (Kd.R_below (rr HO264.out) hb); replace HO270 := am (Kd.R_below (rr HO270.out) hb); have HO273 := am (Kd.R_lower (Kd.R_new' (Kd.R_new' (Kd.R_newM (M := fun k_ => (w.heap.size ≤ k_)) ho16 (below_size (bz HB.out)) (fun k_ h_ => h_)) (Kd.R_lt (rr HO261.out))) (Kd.R_lt (rr HO267.out))) (below_size (bz HB.out))); replace HO261 := am (Kd.R_elder' (rr HO261.out) (Kd.R_base ho16) hb); replace HO267 := am (Kd.R_elder' (rr HO267.out) (Kd.R_base ho16) hb); replace HB := sb HB hb; clear hb ho16; obtain ⟨Ao17, co17, eo17⟩ := Kd.R_slice HO273.out; subst eo17; obtain ⟨Ao18, co18, eo18⟩ := Kd.R_slice HO270.out; subst eo18) | ((with_reducible refine gate_dst (N := 10) rfl ?_); refine rlit Kd.string 9 ([(⟨#[43]⟩ : ByteArray), (⟨#[45]⟩ : ByteArray)] : List ByteArray) [.string (⟨#[43]⟩ : ByteArray), .string (⟨#[45]⟩ : ByteArray)] ?_ (Below.refl _ _) (Nat.le_refl _) (r1s (r1s (Reps.none _ _))); intro v275 w19 ho20 hb hg_ hnew_; clear hg_ hnew_; (first | rw [← Ny274.out] at ho20 | (simp only [Int.reduceToNat] at ho20; rw [← Ny274.out] at ho20)); replace HO261 := am (Kd.R_below (rr HO261.out) hb); replace HO267 := am (Kd.R_below (rr HO267.out) hb); replace HO273 := am (Kd.R_below (rr HO273.out) hb); have HO276 := am (Kd.R_lower (Kd.R_new' (Kd.R_new' (Kd.R_new' (Kd.R_newM (M := fun k_ => (w.heap.size ≤ k_)) ho20 (below_size (bz HB.out)) (fun k_ h_ => h_)) (Kd.R_lt (rr HO258.out))) (Kd.R_lt (rr HO264.out))) (Kd.R_lt (rr HO270.out))) (below_size (bz HB.out))); replace HO258 := am (Kd.R_elder' (rr HO258.out) (Kd.R_base ho20) hb); replace HO264 := am (Kd.R_elder' (rr HO264.out) (Kd.R_base ho20) hb); replace HO270 := am (Kd.R_elder' (rr HO270.out) (Kd.R_base ho20) hb); replace HB := sb HB hb; clear hb ho20) | ((with_reducible refine gate_dst (N := 11) rfl ?_); refine rlit (Kd.int .i64) 3 ([4, 5] : List Int) [.int .i64 4, .int .i64 5] ?_ (Below.refl _ _) (Nat.le_refl _) (r1i (r1i (Reps.none _ _))); intro v278 w21 ho22 hb hg_ hnew_; clear hg_ hnew_; (first | rw [← Ny277.out] at ho22 | (simp only [Int.reduceToNat] at ho22; rw [← Ny277.out] at ho22)); replace HO258 := am (Kd.R_below (rr HO258.out) hb); replace HO264 := am (Kd.R_below (rr HO264.out) hb); replace HO270 := am (Kd.R_below (rr HO270.out) hb); replace HO276 := am (Kd.R_below (rr HO276.out) hb); have HO279 := am (Kd.R_lower (Kd.R_new' (Kd.R_new' (Kd.R_new' (Kd.R_newM (M := fun k_ => (w.heap.size ≤ k_)) ho22 (below_size (bz HB.out)) (fun k_ h_ => h_)) (Kd.R_lt (rr HO261.out))) (Kd.R_lt (rr HO267.out))) (Kd.R_lt (rr HO273.out))) (below_size (bz HB.out))); replace HO261 := am (Kd.R_elder' (rr HO261.out) (Kd.R_base ho22) hb); replace HO267 := am (Kd.R_elder' (rr HO267.out) (Kd.R_base ho22) hb); replace HO273 := am (Kd.R_elder' (rr HO273.out) (Kd.R_base ho22) hb); replace HB := sb HB hb; clear hb ho22; obtain ⟨Ao23, co23, eo23⟩ := Kd.R_slice HO279.out; subst eo23; obtain ⟨Ao24, co24, eo24⟩ := Kd.R_slice HO276.out; subst eo24) | ((with_reducible refine gate_dst (N := 13) rfl ?_); refine rlit Kd.string 9 ([(⟨#[42]⟩ : ByteArray), (⟨#[47]⟩ : ByteArray)] : List ByteArray) [.string (⟨#[42]⟩ : ByteArray), .string (⟨#[47]⟩ : ByteArray)] ?_ (Below.refl _ _) (Nat.le_refl _) (r1s (r1s (Reps.none _ _))); intro v281 w25 ho26 hb hg_ hnew_; clear hg_ hnew_; (first | rw [← Ny280.out] at ho26 | (simp only [Int.reduceToNat] at ho26; rw [← Ny280.out] at ho26)); replace HO261 := am (Kd.R_below (rr HO261.out) hb); replace HO267 := am (Kd.R_below (rr HO267.out) hb); replace HO273 := am (Kd.R_below (rr HO273.out) hb); replace HO279 := am (Kd.R_below (rr HO279.out) hb); have HO282 := am (Kd.R_lower (Kd.R_new' (Kd.R_new' (Kd.R_new' (Kd.R_new' (Kd.R_newM (M := fun k_ => (w.heap.size ≤ k_)) ho26 (below_size (bz HB.out)) (fun k_ h_ => h_)) (Kd.R_lt (rr HO258.out))) (Kd.R_lt (rr HO264.out))) (Kd.R_lt (rr HO270.out))) (Kd.R_lt (rr HO276.out))) (below_size (bz HB.out))); replace HO258 := am (Kd.R_elder' (rr HO258.out) (Kd.R_base ho26) hb); replace HO264 := am (Kd.R_elder' (rr HO264.out) (Kd.R_base ho26) hb); replace HO270 := am (Kd.R_elder' (rr HO270.out) (Kd.R_base ho26) hb); replace HO276 := am (Kd.R_elder' (rr HO276.out) (Kd.R_base ho26) hb); replace HB := sb HB hb; clear hb ho26) | ((with_reducible refine gate_dst (N := 14) rfl ?_); refine rlit (Kd.int .i64) 3 ([6, 7] : List Int) [.int .i64 6, .int .i64 7] ?_ (Below.refl _ _) (Nat.le_refl _) (r1i (r1i (Reps.none _ _))); intro v284 w27 ho28 hb hg_ hnew_; clear hg_ hnew_; (first | rw [← Ny283.out] at ho28 | (simp only [Int.reduceToNat] at ho28; rw [← Ny283.out] at ho28)); replace HO258 := am (Kd.R_below (rr HO258.out) hb); replace HO264 := am (Kd.R_below (rr HO264.out) hb); replace HO270 := am (Kd.R_below (rr HO270.out) hb); replace HO276 := am (Kd.R_below (rr HO276.out) hb); replace HO282 := am (Kd.R_below (rr HO282.out) hb); have HO285 := am (Kd.R_lower (Kd.R_new' (Kd.R_new' (Kd.R_new' (Kd.R_new' (Kd.R_newM (M := fun k_ => (w.heap.size ≤ k_)) ho28 (below_size (bz HB.out)) (fun k_ h_ => h_)) (Kd.R_lt (rr HO261.out))) (Kd.R_lt (rr HO267.out))) (Kd.R_lt (rr HO273.out))) (Kd.R_lt (rr HO279.out))) (below_size (bz HB.out))); replace HO261 := am (Kd.R_elder' (rr HO261.out) (Kd.R_base ho28) hb); replace HO267 := am (Kd.R_elder' (rr HO267.out) (Kd.R_base ho28) hb); replace HO273 := am (Kd.R_elder' (rr HO273.out) (Kd.R_base ho28) hb); replace HO279 := am (Kd.R_elder' (rr HO279.out) (Kd.R_base ho28) hb); replace HB := sb HB hb; clear hb ho28; obtain ⟨Ao29, co29, eo29⟩ := Kd.R_slice HO285.out; subst eo29; obtain ⟨Ao30, co30, eo30⟩ := Kd.R_slice HO282.out; subst eo30) | ((with_reducible refine gate_dst (N := 16) rfl ?_); refine Kd.N_lit k143 _ 143 ?hg (N' := 16) ?hd (xs := ([(⟨y256, y259, false⟩ : S143), (⟨y262, y265, false⟩ : S143), (⟨y268, y271, true⟩ : S143), (⟨y274, y277, false⟩ : S143), (⟨y280, y283, false⟩ : S143)] : List (S143))) (inner := [.slice Ao6 y256.length co6, .slice Ao5 y259.length co5, .bool false, .slice Ao12 y262.length co12, .slice Ao11 y265.length co11, .bool false, .slice Ao18 y268.length co18, .slice Ao17 y271.length co17, .bool true, .slice Ao24 y274.length co24, .slice Ao23 y277.length co23, .bool false, .slice Ao30 y280.length co30, .slice Ao29 y283.length co29, .bool false]) (ok := (fun k_ => (w.heap.size ≤ k_))) (okp := (fun k_ => (w.heap.size ≤ k_))) ?hr ?hp (fun _ hk => hk) ((show ∀ k_, w27.heap.size ≤ k_ → (fun k_ => (w.heap.size ≤ k_)) k_ from fun k_ hk => (Nat.le_trans (below_size (bz HB.out)) hk)) _ (Nat.le_refl _)) (Below.refl _ _) (Nat.le_refl _) (by simp) ?_; (case hd => rfl); (case hg => rfl); (case hr => first | (go_simp; done) | (go_simp; rfl)); (case hp => exact (Reps.c3 (show Kd.FK k143 _ _ (⟨y256, y259, false⟩ : S143) [.slice Ao6 y256.length co6, .slice Ao5 y259.length co5, .bool false] from (k143_mkF _ _ (⟨y256, y259, false⟩ : S143) (Kd.R_reads' (Kd.R_mono (ok' := (fun k_ => (w.heap.size ≤ k_))) (HO258.out) (fun k_ hk => hk.1.1.1.1.1))).2.1 (Kd.R_F (Kd.R_mono (ok' := (fun k_ => (w.heap.size ≤ k_))) (HO258.out) (fun k_ hk => hk.1.1.1.1.1))) (Kd.R_reads' (Kd.R_mono (ok' := (fun k_ => (w.heap.size ≤ k_))) (HO261.out) (fun k_ hk => hk.1.1.1.1.1))).2.1 (Kd.R_F (Kd.R_mono (ok' := (fun k_ => (w.heap.size ≤ k_))) (HO261.out) (fun k_ hk => hk.1.1.1.1.1))))) (Reps.c3 (show Kd.FK k143 _ _ (⟨y262, y265, false⟩ : S143) [.slice Ao12 y262.length co12, .slice Ao11 y265.length co11, .bool false] from (k143_mkF _ _ (⟨y262, y265, false⟩ : S143) (Kd.R_reads' (Kd.R_mono (ok' := (fun k_ => (w.heap.size ≤ k_))) (HO264.out) (fun k_ hk => hk.1.1.1.1.1))).2.1 (Kd.R_F (Kd.R_mono (ok' := (fun k_ => (w.heap.size ≤ k_))) (HO264.out) (fun k_ hk => hk.1.1.1.1.1))) (Kd.R_reads' (Kd.R_mono (ok' := (fun k_ => (w.heap.size ≤ k_))) (HO267.out) (fun k_ hk => hk.1.1.1.1.1))).2.1 (Kd.R_F (Kd.R_mono (ok' := (fun k_ => (w.heap.size ≤ k_))) (HO267.out) (fun k_ hk => hk.1.1.1.1.1))))) (Reps.c3 (show Kd.FK k143 _ _ (⟨y268, y271, true⟩ : S143) [.slice Ao18 y268.length co18, .slice Ao17 y271.length co17, .bool true] from (k143_mkF _ _ (⟨y268, y271, true⟩ : S143) (Kd.R_reads' (Kd.R_mono (ok' := (fun k_ => (w.heap.size ≤ k_))) (HO270.out) (fun k_ hk => hk.1.1.1.1.1))).2.1 (Kd.R_F (Kd.R_mono (ok' := (fun k_ => (w.heap.size ≤ k_))) (HO270.out) (fun k_ hk => hk.1.1.1.1.1))) (Kd.R_reads' (Kd.R_mono (ok' := (fun k_ => (w.heap.size ≤ k_))) (HO273.out) (fun k_ hk => hk.1.1.1.1.1))).2.1 (Kd.R_F (Kd.R_mono (ok' := (fun k_ => (w.heap.size ≤ k_))) (HO273.out) (fun k_ hk => hk.1.1.1.1.1))))) (Reps.c3 (show Kd.FK k143 _ _ (⟨y274, y277, false⟩ : S143) [.slice Ao24 y274.length co24, .slice Ao23 y277.length co23, .bool false] from (k143_mkF _ _ (⟨y274, y277, false⟩ : S143) (Kd.R_reads' (Kd.R_mono (ok' := (fun k_ => (w.heap.size ≤ k_))) (HO276.out) (fun k_ hk => hk.1.1.1.1.1))).2.1 (Kd.R_F (Kd.R_mono (ok' := (fun k_ => (w.heap.size ≤ k_))) (HO276.out) (fun k_ hk => hk.1.1.1.1.1))) (Kd.R_reads' (Kd.R_mono (ok' := (fun k_ => (w.heap.size ≤ k_))) (HO279.out) (fun k_ hk => hk.1.1.1.1.1))).2.1 (Kd.R_F (Kd.R_mono (ok' := (fun k_ => (w.heap.size ≤ k_))) (HO279.out) (fun k_ hk => hk.1.1.1.1.1))))) (Reps.c3 (show Kd.FK k143 _ _ (⟨y280, y283, false⟩ : S143) [.slice Ao30 y280.length co30, .slice Ao29 y283.length co29, .bool false] from (k143_mkF _ _ (⟨y280, y283, false⟩ : S143) (Kd.R_reads' (Kd.R_mono (ok' := (fun k_ => (w.heap.size ≤ k_))) (HO282.out) (fun k_ hk => hk.1.1.1.1.1))).2.1 (Kd.R_F (Kd.R_mono (ok' := (fun k_ => (w.heap.size ≤ k_))) (HO282.out) (fun k_ hk => hk.1.1.1.1.1))) (Kd.R_reads' (Kd.R_mono (ok' := (fun k_ => (w.heap.size ≤ k_))) (HO285.out) (fun k_ hk => hk.1.1.1.1.1))).2.1 (Kd.R_F (Kd.R_mono (ok' := (fun k_ => (w.heap.size ≤ k_))) (HO285.out) (fun k_ hk => hk.1.1.1.1.1))))) (Reps.none _ _))))))); intro v287 w31 ho32 hb hg_ hnew_; clear hg_ hnew_; (first | rw [← Ny286.out] at ho32 | (simp only [Int.reduceToNat] at ho32; rw [← Ny286.out] at ho32)); have HO288 := am (Kd.N_lower ho32 (below_size (bz HB.out))); replace HB := sb HB hb; clear HO258 HO261 HO264 HO267 HO270 HO273 HO276 HO279 HO282 HO285 hb ho32))
 go_ret
 exact ⟨_, az, nn HO288.out, bz HB.out⟩
end Go.Proofs.YtgkemhgihbfmmaaGreatDoor.PA
end
section
namespace Go.Proofs.YtgkemhgihbfmmaaGreatDoor.PA
open Go.RowKit Go.Proofs.YtgkemhgihbfmmaaGreatDoorW.PrintWords Go.Proofs.YtgkemhgihbfmmaaGreatDoorW.PrintLast Go.Proofs.YtgkemhgihbfmmaaGreatDoorW.PrintMore
attribute [local go_sem] max2_int min2_int max_two min_two max_three min_three max_four min_four isSome_set str_gtr
set_option linter.unusedVariables false
set_option linter.unusedSimpArgs false
mutual
def expr_Parser_Value.j0 : Nat → Bool → List (S136) → Int → Int → Int → Int → Int → Option (Int × Int × Int × ByteArray × Int × Bool × Int × Int × Int × Int × Int)
 | 0, _, _, _, _, _, _, _ => none
 | k + 1, x22, x1000, x1001, x1002, x1003, x1004, x1005 => if x22 = true then (none) else (if 0 ≤ x1001 then (if x1001 < (x1000.length : Int) then (if ((rd_T136 x1000 x1001).f0) = 1 then (expr_Parser_Value.j1 k x1000 x1001 x1002 x1003 x1004 x1005 1 ((rd_T136 x1000 x1001).f3.f0) ((rd_T136 x1000 x1001).f3.f1) (⟨#[]⟩ : ByteArray) 0) else (if ((rd_T136 x1000 x1001).f0) = 2 then (none) else (if ((rd_T136 x1000 x1001).f0) = 3 then (none) else ((expr_Parser_Is.f k x1000 x1001 x1002 x1003 x1004 x1005 (⟨#[116, 114, 117, 101]⟩ : ByteArray)).bind fun bt293 => (if bt293.1 = true then (none) else ((expr_Parser_Is.f k x1000 bt293.2.1 bt293.2.2.1 bt293.2.2.2.1 bt293.2.2.2.2.1 bt293.2.2.2.2.2 (⟨#[102, 97, 108, 115, 101]⟩ : ByteArray)).bind fun bt299 => (if bt299.1 = true then (none) else ((expr_Parser_Is.f k x1000 bt299.2.1 bt299.2.2.1 bt299.2.2.2.1 bt299.2.2.2.2.1 bt299.2.2.2.2.2 (⟨#[110, 117, 108, 108]⟩ : ByteArray)).bind fun bt305 => (if bt305.1 = true then (expr_Parser_Value.j1 k x1000 bt305.2.1 bt305.2.2.1 bt305.2.2.2.1 bt305.2.2.2.2.1 bt305.2.2.2.2.2 0 0 0 (⟨#[]⟩ : ByteArray) 0) else (some (0, 0, 0, (⟨#[]⟩ : ByteArray), 0, false, bt305.2.1, bt305.2.2.1, bt305.2.2.2.1, bt305.2.2.2.2.1, bt305.2.2.2.2.2))))))))))) else (none)) else (none))
def expr_Parser_Value.j1 : Nat → List (S136) → Int → Int → Int → Int → Int → Int → Int → Int → ByteArray → Int → Option (Int × Int × Int × ByteArray × Int × Bool × Int × Int × Int × Int × Int)
 | 0, _, _, _, _, _, _, _, _, _, _, _ => none
 | k + 1, x1000, x1001, x1002, x1003, x1004, x1005, x293000, x293001, x293002, x293003, x293004 => some (x293000, x293001, x293002, x293003, x293004, true, wrap64 (x1001 + 1), x1002, x1003, x1004, x1005)
end
def expr_Parser_Value.f (k : Nat) (s0_0 : List (S136)) (s0_1 s0_2 s0_3 s0_4 s0_5 : Int) : Option (Int × Int × Int × ByteArray × Int × Bool × Int × Int × Int × Int × Int) := if s0_4 = 0 then (expr_Parser_Value.j0 k (decide (s0_1 ≥ (s0_0.length : Int))) s0_0 s0_1 s0_2 s0_3 s0_4 s0_5) else (expr_Parser_Value.j0 k true s0_0 s0_1 s0_2 s0_3 s0_4 s0_5)
theorem expr_Parser_Value.mono_l : ∀ k, (∀ y0 y1 y2 y3 y4 y5 y6, LeO (expr_Parser_Value.j0 k y0 y1 y2 y3 y4 y5 y6) (expr_Parser_Value.j0 (k + 1) y0 y1 y2 y3 y4 y5 y6)) ∧ (∀ y0 y1 y2 y3 y4 y5 y6 y7 y8 y9 y10, LeO (expr_Parser_Value.j1 k y0 y1 y2 y3 y4 y5 y6 y7 y8 y9 y10) (expr_Parser_Value.j1 (k + 1) y0 y1 y2 y3 y4 y5 y6 y7 y8 y9 y10))
 | 0 => ⟨fun _ _ _ _ _ _ _ r h => by simp [expr_Parser_Value.j0] at h, fun _ _ _ _ _ _ _ _ _ _ _ r h => by simp [expr_Parser_Value.j1] at h⟩
 | k + 1 => by
  obtain ⟨ih0, ih1⟩ := expr_Parser_Value.mono_l k
  refine ⟨?_, ?_⟩
  ·intro y0 y1 y2 y3 y4 y5 y6
   unfold expr_Parser_Value.j0
   have q0 := @expr_Parser_Is.mono; exact lmo
  intro y0 y1 y2 y3 y4 y5 y6 y7 y8 y9 y10
  unfold expr_Parser_Value.j1
  have q0 := @expr_Parser_Is.mono; exact lmo
theorem expr_Parser_Value.mono : ∀ a0 a1 a2 a3 a4 a5 k, LeO (expr_Parser_Value.f k a0 a1 a2 a3 a4 a5) (expr_Parser_Value.f (k + 1) a0 a1 a2 a3 a4 a5) := by
 intro a0 a1 a2 a3 a4 a5 k
 obtain ⟨ih0, ih1⟩ := expr_Parser_Value.mono_l k
 unfold expr_Parser_Value.f
 have q0 := @expr_Parser_Is.mono; exact lmo
def expr_Parser_Value.T1 : Bool × List (List Nat × List Nat) := (true, [([], []), ([0], [0]), ([1], [1]), ([2], [2]), ([3], [3]), ([4], [4]), ([5], [5]), ([6, 5], [5, 6]), ([7, 5], [5, 7]), ([8, 5], [5, 8]), ([5], [5]), ([10, 5], [5, 10]), ([11, 5], [5, 11]), ([12, 5], [5, 12]), ([13, 5], [5, 13]), ([9, 14, 5], [5, 9, 14]), ([5, 15], [5, 15])])
def expr_Parser_Value.B1 : List Nat := [0, 1, 3, 7, 15, 31, 63, 127, 255, 511, 63, 1087, 3135, 7231, 15423, 32767, 65535]
theorem expr_Parser_Value.tab1 : rtab .any (opsOf Tryz.f150 1) = expr_Parser_Value.T1 := by kernel_rfl
theorem expr_Parser_Value.bits1 : waitsOk expr_Parser_Value.T1.2 expr_Parser_Value.B1 = true := by kernel_rfl
def expr_Parser_Value.T3 : Bool × List (List Nat × List Nat) := (true, [([], []), ([0], [0]), ([1], [1]), ([2], [2]), ([], []), ([4], [4]), ([5], [5]), ([6], [6]), ([3, 7], [3, 7]), ([8], [8]), ([], []), ([10, 9, 0, 1, 2, 3, 4, 5, 6, 7, 8, 9, 10], [9, 10])])
def expr_Parser_Value.B3 : List Nat := [0, 1, 3, 7, 0, 16, 48, 112, 255, 511, 0, 2047]
theorem expr_Parser_Value.tab3 : rtab .any (opsOf Tryz.f150 3) = expr_Parser_Value.T3 := by kernel_rfl
theorem expr_Parser_Value.bits3 : waitsOk expr_Parser_Value.T3.2 expr_Parser_Value.B3 = true := by kernel_rfl
set_option maxHeartbeats 8000000 in
set_option maxRecDepth 100000 in
theorem expr_Parser_Value.calls (k : Nat) (g : Nat) (s0_0 : List (S136)) (s0_1 s0_2 s0_3 s0_4 s0_5 r1 r2 r3 : Int) (r4 : ByteArray) (r5 : Int) (r6 : Bool) (r7 r8 r9 r10 r11 : Int) (w0 w : World) (hI : IsS63 w0 w g s0_0 s0_1 s0_2 s0_3 s0_4 s0_5) (hB : Below w0.heap.size w0 w) (h : expr_Parser_Value.f k s0_0 s0_1 s0_2 s0_3 s0_4 s0_5 = some (r1, r2, r3, r4, r5, r6, r7, r8, r9, r10, r11)) :
  Calls Tryz.prog 150 #[.pointer (some ⟨g, 0, none⟩)] w fun e w' => e = .returned (.tuple #[.agg #[.int .i64 r1, .int .i64 r2, .int .i64 r3, .string r4, .int .i64 r5], .bool r6]) ∧ IsS63 w0 w' g s0_0 r7 r8 r9 r10 r11 ∧ Below w0.heap.size w0 w' ∧ KeepBut w w' g none := by
 have hu25 := Tryz.underlying25
 have hu136 := Tryz.underlying136
 have hu23 := Tryz.underlying23
 have HI0 := am hI
 have HK := am (KeepBut.refl w g none)
 have HL := am hB.size
 clear hI
 have HW0 := am hB.size
 have HB := am hB
 clear hB
 have H : (if s0_4 = 0 then (expr_Parser_Value.j0 k (decide (s0_1 ≥ (s0_0.length : Int))) s0_0 s0_1 s0_2 s0_3 s0_4 s0_5) else (expr_Parser_Value.j0 k true s0_0 s0_1 s0_2 s0_3 s0_4 s0_5)) = some (r1, r2, r3, r4, r5, r6, r7, r8, r9, r10, r11) := h
 clear h
 have HC2 := am H
 clear H
 go_enter Tryz.func150, Tryz.ntmps150
 go_upto_region 1 with (first | ((with_reducible refine gate_dst (N := 2) rfl ?_); (try (refine gate_guard (by rfl) ?_; dsimp only)); refine bev (#[.int .i64 0, .int .i64 0, .int .i64 0, .string (⟨#[]⟩ : ByteArray), .int .i64 0]) 25 ?_; intro gb289 hg w3 hbox hb; replace HB := sb HB hb; have BK289 := am (hbox); have GW289 := gk hg HK; have GE289 := am (Nat.le_trans HW0.out GW289.out); replace HK := am (KeepBut.trans (kz HK.out) (KeepBut.of_below hb g none) (.inl rfl)); have NB0_289 := am ((nlt (a := g) hg (IsS63.lt (show IsS63 w0 _ g s0_0 s0_1 s0_2 s0_3 s0_4 s0_5 from hz HI0.out)))); have NB289_0 := am ((ngt (a := g) hg (IsS63.lt (show IsS63 w0 _ g s0_0 s0_1 s0_2 s0_3 s0_4 s0_5 from hz HI0.out)))); replace HI0 := am (IsS63.below (hz HI0.out) hb); clear hb hbox hg))
 (try simp only [Act.put, List.setIfInBounds_toArray, List.set_cons_zero, List.set_cons_succ])
 go_cut [22] (fun v22 wc => ∃ (kq : Nat) (x22_1 : Bool), v22 = .bool x22_1 ∧ Aside0 (expr_Parser_Value.j0 kq x22_1 s0_0 s0_1 s0_2 s0_3 s0_4 s0_5 = some (r1, r2, r3, r4, r5, r6, r7, r8, r9, r10, r11)) ∧ Aside0 (kq ≤ k) ∧ Aside0 (wc.heap[gb289]? = some (.cells #[.int .i64 0, .int .i64 0, .int .i64 0, .string (⟨#[]⟩ : ByteArray), .int .i64 0] 25 (0, 0))) ∧ Aside0 (IsS63 w0 wc g s0_0 s0_1 s0_2 s0_3 s0_4 s0_5) ∧ Aside0 (KeepBut w wc g none) ∧ Aside0 (Below w0.heap.size w0 wc))
 case first =>
  have H := HC2.out
  clear HC2
  by_cases c4 : s0_4 = 0
  ·replace H := ipe c4 H
   obtain ⟨H, c4b0, c4b1⟩ := H
   clear c4
   (first | rw [c4b0] | (simp only [i64_w, i32_w]; rw [c4b0]) | skip)
   have H' := am H
   clear H
   try go_wp2
   replace BK289 := am (blk_drew BK289.out)
   replace HI0 := am (IsS63.drew HI0.out)
   replace HK := am (keep_drew HK.out)
   replace HB := am (below_drew1 HB.out)
   obtain ⟨ASz6_0, cSz6_0, HSz6_0, Z6_0, Z6_1, Z6_2, Z6_3, Z6_4, Z6_5, F6_1, F6_2, F6_3, F6_4, F6_5⟩ := open63 HI0.out
   refine start_ (n := 17) (S := fun w' => w'.cell? ⟨g, 0, none⟩ = some (.slice ASz6_0 s0_0.length cSz6_0) ∧ w'.cell? ⟨g, 1, none⟩ = some (.int .i64 s0_1) ∧ w'.cell? ⟨g, 2, none⟩ = some (.int .i64 s0_2) ∧ w'.cell? ⟨g, 3, none⟩ = some (.int .i64 s0_3) ∧ w'.cell? ⟨g, 4, none⟩ = some (.int .i64 s0_4) ∧ w'.cell? ⟨g, 5, none⟩ = some (.int .i64 s0_5)) (ds := []) (bts0 17) (by kernel_rfl) rfl rfl ⟨Z6_0, Z6_1, Z6_2, Z6_3, Z6_4, Z6_5⟩ (fun hHeld => ?_); refine with_tabW expr_Parser_Value.tab1 expr_Parser_Value.bits1 (fun HT_ HW_ => ?_)
   generalize w3.drew = w5 at BK289 HI0 HK HB hHeld ⊢
   refine pu 0 (some 6) (bts 17 1) (any_of HT_.out (by kernel_rfl)) ?_
   refine pu 1 (some 7) (bts 17 3) (any_of HT_.out (by kernel_rfl)) ?_
   refine pu 2 (some 8) (bts 17 7) (any_of HT_.out (by kernel_rfl)) ?_
   refine ta 3 (some 9) (bts 17 15) (take_ofW HT_.out HW_.out (by kernel_rfl)) hHeld ?_
   refine pu 4 (some 10) (bts 17 31) (any_of HT_.out (by kernel_rfl)) ?_
   refine pu 5 (some 11) (bts 17 63) (any_of HT_.out (by kernel_rfl)) ?_
   refine pu 6 (some 12) (bts 17 127) (any_of HT_.out (by kernel_rfl)) ?_
   refine pu 7 (some 13) (bts 17 255) (any_of HT_.out (by kernel_rfl)) ?_
   refine pu 8 (some 14) (bts 17 511) (any_of HT_.out (by kernel_rfl)) ?_
   refine pu 10 (some 16) (bts 17 1535) (any_of HT_.out (by kernel_rfl)) ?_
   refine pu 11 (some 17) (bts 17 3583) (any_of HT_.out (by kernel_rfl)) ?_
   refine pu 12 (some 18) (bts 17 7679) (any_of HT_.out (by kernel_rfl)) ?_
   refine ta 9 (some 15) (bts 17 8191) (take_ofW HT_.out HW_.out (by kernel_rfl)) hHeld ?_
   refine ta 13 (some 19) (bts 17 16383) (take_ofW HT_.out HW_.out (by kernel_rfl)) hHeld ?_
   refine pu 14 (some 20) (bts 17 32767) (any_of HT_.out (by kernel_rfl)) ?_
   refine pu 15 (some 21) (bts 17 65535) (any_of HT_.out (by kernel_rfl)) ?_
   refine pu 16 (some 22) (bts 17 131071) (any_of HT_.out (by kernel_rfl)) ?_
   refine done_ (done_of HT_.out (by kernel_rfl)) ?_
   try go_wp2
   go_meet
   case rel => exact ⟨_, (decide (s0_1 ≥ (s0_0.length : Int))), sz, H', ⟨oz⟩, ⟨bk BK289.out⟩, ⟨hz HI0.out⟩, ⟨kz HK.out⟩, ⟨bz HB.out⟩⟩
  replace H := ine c4 H
  obtain ⟨H, c4b0, c4b1⟩ := H
  (first | rw [c4b0] | (simp only [i64_w, i32_w]; rw [c4b0]) | skip)
  have H' := am H
  clear H
  try go_wp2
  replace BK289 := am (blk_drew BK289.out)
  replace HI0 := am (IsS63.drew HI0.out)
  replace HK := am (keep_drew HK.out)
  replace HB := am (below_drew1 HB.out)
  obtain ⟨ASz8_0, cSz8_0, HSz8_0, Z8_0, Z8_1, Z8_2, Z8_3, Z8_4, Z8_5, F8_1, F8_2, F8_3, F8_4, F8_5⟩ := open63 HI0.out
  refine start_ (n := 17) (S := fun w' => w'.cell? ⟨g, 0, none⟩ = some (.slice ASz8_0 s0_0.length cSz8_0) ∧ w'.cell? ⟨g, 1, none⟩ = some (.int .i64 s0_1) ∧ w'.cell? ⟨g, 2, none⟩ = some (.int .i64 s0_2) ∧ w'.cell? ⟨g, 3, none⟩ = some (.int .i64 s0_3) ∧ w'.cell? ⟨g, 4, none⟩ = some (.int .i64 s0_4) ∧ w'.cell? ⟨g, 5, none⟩ = some (.int .i64 s0_5)) (ds := []) (bts0 17) (by kernel_rfl) rfl rfl ⟨Z8_0, Z8_1, Z8_2, Z8_3, Z8_4, Z8_5⟩ (fun hHeld => ?_); refine with_tabW expr_Parser_Value.tab1 expr_Parser_Value.bits1 (fun HT_ HW_ => ?_)
  generalize w3.drew = w7 at BK289 HI0 HK HB hHeld ⊢
  refine pu 0 (some 6) (bts 17 1) (any_of HT_.out (by kernel_rfl)) ?_
  refine pu 1 (some 7) (bts 17 3) (any_of HT_.out (by kernel_rfl)) ?_
  refine pu 2 (some 8) (bts 17 7) (any_of HT_.out (by kernel_rfl)) ?_
  refine ta 3 (some 9) (bts 17 15) (take_ofW HT_.out HW_.out (by kernel_rfl)) hHeld ?_
  refine pu 4 (some 10) (bts 17 31) (any_of HT_.out (by kernel_rfl)) ?_
  refine pu 5 (some 11) (bts 17 63) (any_of HT_.out (by kernel_rfl)) ?_
  refine pn 6 (some 12) (bts 17 127) (any_of HT_.out (by kernel_rfl)) ?_
  refine pn 7 (some 13) (bts 17 255) (any_of HT_.out (by kernel_rfl)) ?_
  refine pn 8 (some 14) (bts 17 511) (any_of HT_.out (by kernel_rfl)) ?_
  refine pn 9 (some 15) (bts 17 1023) (any_of HT_.out (by kernel_rfl)) ?_
  refine pn 10 (some 16) (bts 17 2047) (any_of HT_.out (by kernel_rfl)) ?_
  refine pn 11 (some 17) (bts 17 4095) (any_of HT_.out (by kernel_rfl)) ?_
  refine pn 12 (some 18) (bts 17 8191) (any_of HT_.out (by kernel_rfl)) ?_
  refine pn 13 (some 19) (bts 17 16383) (any_of HT_.out (by kernel_rfl)) ?_
  refine pn 14 (some 20) (bts 17 32767) (any_of HT_.out (by kernel_rfl)) ?_
  refine pn 15 (some 21) (bts 17 65535) (any_of HT_.out (by kernel_rfl)) ?_
  refine pu 16 (some 22) (bts 17 131071) (any_of HT_.out (by kernel_rfl)) ?_
  refine done_ (done_of HT_.out (by kernel_rfl)) ?_
  try go_wp2
  go_meet
  case rel => exact ⟨_, (true), sz, H', ⟨oz⟩, ⟨bk BK289.out⟩, ⟨hz HI0.out⟩, ⟨kz HK.out⟩, ⟨bz HB.out⟩⟩
 case rest =>
  clear HC2
  skip
  obtain ⟨kq, x22_1, rfl, HA, HJ1, BK289, HI0, HK, HB⟩ := hcut
  cases kq with
  | zero => exact absurd HA.out (by simp [expr_Parser_Value.j0])
  | succ kj1 =>
   have H := HA.out
   clear HA
   simp only [expr_Parser_Value.j0] at H
   by_cases c9 : x22_1 = true
   ·subst c9
    replace H := ift H
    exact absurd H (by simp)
   replace c9 := Bool.eq_false_iff.mpr c9
   subst c9
   replace H := iff_ H
   by_cases c10 : 0 ≤ s0_1
   ·rw [if_pos c10] at H
    have c10b0 : decide (0 ≤ s0_1) = true := decide_eq_true c10
    clear c10
    by_cases c11 : s0_1 < (s0_0.length : Int)
    ·rw [if_pos c11] at H
     have c11b0 : decide (s0_1 < (s0_0.length : Int)) = true := decide_eq_true c11
     clear c11
     have HC12 := am H
     clear H
     try go_wp2
     replace BK289 := am (blk_drew BK289.out)
     replace HI0 := am (IsS63.drew HI0.out)
     replace HK := am (keep_drew HK.out)
     replace HB := am (below_drew1 HB.out)
     obtain ⟨ASz14_0, cSz14_0, HSz14_0, Z14_0, Z14_1, Z14_2, Z14_3, Z14_4, Z14_5, F14_1, F14_2, F14_3, F14_4, F14_5⟩ := open63 HI0.out
     have p290 : 0 ≤ (s0_1 : Int) := of_decide_eq_true tz
     have q290 : s0_1 < (s0_0.length : Int) := of_decide_eq_true tz
     obtain ⟨ad290, e290, hx290_0, hx290_1, hx290_2, hx290_3, hx290_4, hx290_5⟩ := at_T136 HSz14_0 s0_1 p290 q290
     have hw290_5 := hx290_5
     have hw290_4 := hx290_4
     have hw290_3 := hx290_3
     have hw290_2 := hx290_2
     have hw290_1 := hx290_1
     have hw290_0 := hx290_0
     cases e290
     replace hx290_0 := pw_cell_below HB.out hx290_0
     replace hx290_1 := pw_cell_below HB.out hx290_1
     replace hx290_2 := pw_cell_below HB.out hx290_2
     replace hx290_3 := pw_cell_below HB.out hx290_3
     replace hx290_4 := pw_cell_below HB.out hx290_4
     replace hx290_5 := pw_cell_below HB.out hx290_5
     replace p290 := eq_true p290
     replace q290 := eq_true q290
     refine start_ (n := 12) (S := fun w' => w'.cell? ⟨g, 0, none⟩ = some (.slice (some ad290) s0_0.length cSz14_0) ∧ w'.cell? ⟨g, 1, none⟩ = some (.int .i64 s0_1) ∧ w'.cell? ⟨g, 2, none⟩ = some (.int .i64 s0_2) ∧ w'.cell? ⟨g, 3, none⟩ = some (.int .i64 s0_3) ∧ w'.cell? ⟨g, 4, none⟩ = some (.int .i64 s0_4) ∧ w'.cell? ⟨g, 5, none⟩ = some (.int .i64 s0_5) ∧ w'.cell? (ad290.add ((s0_1).toNat * 6)) = some (.int .i64 ((rd_T136 s0_0 s0_1).f0)) ∧ w'.cell? ⟨(ad290.add ((s0_1).toNat * 6)).block, (ad290.add ((s0_1).toNat * 6)).off + 1, none⟩ = some (.int .i64 ((rd_T136 s0_0 s0_1).f1)) ∧ w'.cell? ⟨(ad290.add ((s0_1).toNat * 6)).block, (ad290.add ((s0_1).toNat * 6)).off + 2, none⟩ = some (.string ((rd_T136 s0_0 s0_1).f2)) ∧ w'.cell? ⟨(ad290.add ((s0_1).toNat * 6)).block, (ad290.add ((s0_1).toNat * 6)).off + 3, none⟩ = some (.int .i64 ((rd_T136 s0_0 s0_1).f3.f0)) ∧ w'.cell? ⟨(ad290.add ((s0_1).toNat * 6)).block, (ad290.add ((s0_1).toNat * 6)).off + 4, none⟩ = some (.int .i64 ((rd_T136 s0_0 s0_1).f3.f1)) ∧ w'.cell? ⟨(ad290.add ((s0_1).toNat * 6)).block, (ad290.add ((s0_1).toNat * 6)).off + 5, none⟩ = some (.int .i64 ((rd_T136 s0_0 s0_1).f4))) (ds := []) (bts0 12) (by kernel_rfl) rfl rfl ⟨Z14_0, Z14_1, Z14_2, Z14_3, Z14_4, Z14_5, (hbw HB.out hw290_0), (hbw HB.out hw290_1), (hbw HB.out hw290_2), (hbw HB.out hw290_3), (hbw HB.out hw290_4), (hbw HB.out hw290_5)⟩ (fun hHeld => ?_); refine with_tabW expr_Parser_Value.tab3 expr_Parser_Value.bits3 (fun HT_ HW_ => ?_)
     generalize wc.drew = w13 at BK289 HI0 HK HB hx290_0 hx290_1 hx290_2 hx290_3 hx290_4 hx290_5 hHeld ⊢
     refine pu 0 (some 24) (bts 12 1) (any_of HT_.out (by kernel_rfl)) ?_
     refine pu 1 (some 25) (bts 12 3) (any_of HT_.out (by kernel_rfl)) ?_
     refine pu 2 (some 26) (bts 12 7) (any_of HT_.out (by kernel_rfl)) ?_
     refine pu 4 (some 28) (bts 12 23) (any_of HT_.out (by kernel_rfl)) ?_
     refine pu 5 (some 29) (bts 12 55) (any_of HT_.out (by kernel_rfl)) ?_
     refine pu 6 (some 30) (bts 12 119) (any_of HT_.out (by kernel_rfl)) ?_
     refine ta 3 (some 27) (bts 12 127) (take_ofW HT_.out HW_.out (by kernel_rfl)) hHeld ?_
     refine ta 7 (some 31) (bts 12 255) (take_ofW HT_.out HW_.out (by kernel_rfl)) hHeld ?_
     refine pu 8 (some 32) (bts 12 511) (any_of HT_.out (by kernel_rfl)) ?_
     refine ta 9 (some 33) (bts 12 1023) (take_ofW HT_.out HW_.out (by kernel_rfl)) hHeld ?_
     refine one_ (i := 10) (N := some 4) (bts 12 2047) rfl rfl (one_of HT_.out (by kernel_rfl)) (by decide) (fun K hK => ?_)
     refine box_step ?hg (N := 4) ?hd (cs := #[.int .i64 0, .int .i64 0, .string (⟨#[]⟩ : ByteArray), .int .i64 0, .int .i64 0, .int .i64 0]) (t := 136) ?hr ?_; (case hd => rfl); (case hg => rfl); (case hr => first | (go_simp; done) | (go_simp; rfl))
     intro gb291 hg w15 hbox hb
     have HS0_ := (hb.cell (World.block_lt_of_cell? _ _ (hHeld.1))).trans (hHeld.1)
     have HS1_ := (hb.cell (World.block_lt_of_cell? _ _ (hHeld.2.1))).trans (hHeld.2.1)
     have HS2_ := (hb.cell (World.block_lt_of_cell? _ _ (hHeld.2.2.1))).trans (hHeld.2.2.1)
     have HS3_ := (hb.cell (World.block_lt_of_cell? _ _ (hHeld.2.2.2.1))).trans (hHeld.2.2.2.1)
     have HS4_ := (hb.cell (World.block_lt_of_cell? _ _ (hHeld.2.2.2.2.1))).trans (hHeld.2.2.2.2.1)
     have HS5_ := (hb.cell (World.block_lt_of_cell? _ _ (hHeld.2.2.2.2.2.1))).trans (hHeld.2.2.2.2.2.1)
     replace HB := sb HB hb
     have BK291 := am (hbox)
     have GW291 := gk hg HK
     have GE291 := am (Nat.le_trans HW0.out GW291.out)
     replace HK := am (KeepBut.trans (kz HK.out) (KeepBut.of_below hb g none) (.inl rfl))
     have NB289_291 := na hg BK289
     have NB291_289 := nb hg BK289
     replace BK289 := kb BK289 hb
     have NB0_291 := am ((nlt (a := g) hg (IsS63.lt (show IsS63 w0 _ g s0_0 s0_1 s0_2 s0_3 s0_4 s0_5 from hz HI0.out))))
     have NB291_0 := am ((ngt (a := g) hg (IsS63.lt (show IsS63 w0 _ g s0_0 s0_1 s0_2 s0_3 s0_4 s0_5 from hz HI0.out))))
     replace HI0 := am (IsS63.below (hz HI0.out) hb)
     clear hb hbox hg
     refine hK.out _ _ ⟨HS0_, HS1_, HS2_, HS3_, HS4_, HS5_, (hbw HB.out hw290_0), (hbw HB.out hw290_1), (hbw HB.out hw290_2), (hbw HB.out hw290_3), (hbw HB.out hw290_4), (hbw HB.out hw290_5)⟩ (fun hHeld => ?_)
     clear hK K
     refine norm_ (a' := ?_) ?_ ?_
     rotate_left
     ·show Act.put _ (some 4) _ = _
      simp only [Act.put, List.setIfInBounds_toArray, List.set_cons_zero, List.set_cons_succ, i64_w, i32_w]
      rfl
     refine one_ (i := 11) (N := none) (bts 12 4095) rfl rfl (one_of HT_.out (by kernel_rfl)) (by decide) (fun K hK => ?_)
     have hs16 : w15.cell? ⟨gb291, 0, none⟩ = some (.int .i64 0) := (blk_cell BK291.out 0).trans rfl
     have hfs16 := blk_frozen BK291.out 0
     have hns16_0 := NB289_291.out
     have hms16_0 := NB291_289.out
     have hs17 : w15.cell? ⟨gb291, 1, none⟩ = some (.int .i64 0) := (blk_cell BK291.out 1).trans rfl
     have hfs17 := blk_frozen BK291.out 1
     have hns17_0 := NB289_291.out
     have hms17_0 := NB291_289.out
     have hs18 : w15.cell? ⟨gb291, 2, none⟩ = some (.string (⟨#[]⟩ : ByteArray)) := (blk_cell BK291.out 2).trans rfl
     have hfs18 := blk_frozen BK291.out 2
     have hns18_0 := NB289_291.out
     have hms18_0 := NB291_289.out
     have hs19 : w15.cell? ⟨gb291, 3, none⟩ = some (.int .i64 0) := (blk_cell BK291.out 3).trans rfl
     have hfs19 := blk_frozen BK291.out 3
     have hns19_0 := NB289_291.out
     have hms19_0 := NB291_289.out
     have hs20 : w15.cell? ⟨gb291, 4, none⟩ = some (.int .i64 0) := (blk_cell BK291.out 4).trans rfl
     have hfs20 := blk_frozen BK291.out 4
     have hns20_0 := NB289_291.out
     have hms20_0 := NB291_289.out
     have hs21 : w15.cell? ⟨gb291, 5, none⟩ = some (.int .i64 0) := (blk_cell BK291.out 5).trans rfl
     have hfs21 := blk_frozen BK291.out 5
     have hns21_0 := NB289_291.out
     have hms21_0 := NB291_289.out
     refine skip_ (w1 := ?_) (by rfl) rfl ?_ ?_
     rotate_left
     ·go_simp
      rfl
     refine hK.out _ _ ⟨(cf hHeld.1), (cf hHeld.2.1), (cf hHeld.2.2.1), (cf hHeld.2.2.2.1), (cf hHeld.2.2.2.2.1), (cf hHeld.2.2.2.2.2.1), (cg (nlx hw290_0 HL.out GW291.out) hHeld.2.2.2.2.2.2.1), (cg (nlx hw290_1 HL.out GW291.out) hHeld.2.2.2.2.2.2.2.1), (cg (nlx hw290_2 HL.out GW291.out) hHeld.2.2.2.2.2.2.2.2.1), (cg (nlx hw290_3 HL.out GW291.out) hHeld.2.2.2.2.2.2.2.2.2.1), (cg (nlx hw290_4 HL.out GW291.out) hHeld.2.2.2.2.2.2.2.2.2.2.1), (cg (nlx hw290_5 HL.out GW291.out) hHeld.2.2.2.2.2.2.2.2.2.2.2)⟩ (fun hHeld => ?_)
     clear hK K
     refine done_ (done_of HT_.out (by kernel_rfl)) ?_
     go_upto_block 0 with (first | ((with_reducible refine gate_dst (N := 5) rfl ?_); (try (refine gate_guard (by rfl) ?_; dsimp only)); refine bev (#[.int .i64 0, .int .i64 0, .int .i64 0, .string (⟨#[]⟩ : ByteArray), .int .i64 0]) 25 ?_; intro gb292 hg w22 hbox hb; replace HB := sb HB hb; have BK292 := am (hbox); have GW292 := gk hg HK; have GE292 := am (Nat.le_trans HW0.out GW292.out); replace HK := am (KeepBut.trans (kz HK.out) (KeepBut.of_below hb g none) (.inl rfl)); have NB289_292 := am ((by rw [hg]; exact Nat.ne_of_lt (blk_lt (g := gb289) (o := .cells #[.int .i64 0, .int .i64 0, .int .i64 0, .string (⟨#[]⟩ : ByteArray), .int .i64 0] 25 (0, 0)) (bp BK289.out)) : gb289 ≠ gb292)); have NB292_289 := am ((by rw [hg]; exact Nat.ne_of_gt (blk_lt (g := gb289) (o := .cells #[.int .i64 0, .int .i64 0, .int .i64 0, .string (⟨#[]⟩ : ByteArray), .int .i64 0] 25 (0, 0)) (bp BK289.out)) : gb292 ≠ gb289)); replace BK289 := am (blk_below (g := gb289) (o := .cells #[.int .i64 0, .int .i64 0, .int .i64 0, .string (⟨#[]⟩ : ByteArray), .int .i64 0] 25 (0, 0)) (bp BK289.out) hb); have NB291_292 := am ((by rw [hg]; exact Nat.ne_of_lt (blk_lt (g := gb291) (o := .cells #[.int .i64 ((rd_T136 s0_0 s0_1).f0), .int .i64 ((rd_T136 s0_0 s0_1).f1), .string ((rd_T136 s0_0 s0_1).f2), .int .i64 ((rd_T136 s0_0 s0_1).f3.f0), .int .i64 ((rd_T136 s0_0 s0_1).f3.f1), .int .i64 ((rd_T136 s0_0 s0_1).f4)] 136 (0, 0)) (bp BK291.out)) : gb291 ≠ gb292)); have NB292_291 := am ((by rw [hg]; exact Nat.ne_of_gt (blk_lt (g := gb291) (o := .cells #[.int .i64 ((rd_T136 s0_0 s0_1).f0), .int .i64 ((rd_T136 s0_0 s0_1).f1), .string ((rd_T136 s0_0 s0_1).f2), .int .i64 ((rd_T136 s0_0 s0_1).f3.f0), .int .i64 ((rd_T136 s0_0 s0_1).f3.f1), .int .i64 ((rd_T136 s0_0 s0_1).f4)] 136 (0, 0)) (bp BK291.out)) : gb292 ≠ gb291)); replace BK291 := am (blk_below (g := gb291) (o := .cells #[.int .i64 ((rd_T136 s0_0 s0_1).f0), .int .i64 ((rd_T136 s0_0 s0_1).f1), .string ((rd_T136 s0_0 s0_1).f2), .int .i64 ((rd_T136 s0_0 s0_1).f3.f0), .int .i64 ((rd_T136 s0_0 s0_1).f3.f1), .int .i64 ((rd_T136 s0_0 s0_1).f4)] 136 (0, 0)) (bp BK291.out) hb); have NB0_292 := am ((nlt (a := g) hg (IsS63.lt (show IsS63 w0 _ g s0_0 s0_1 s0_2 s0_3 s0_4 s0_5 from hz HI0.out)))); have NB292_0 := am ((ngt (a := g) hg (IsS63.lt (show IsS63 w0 _ g s0_0 s0_1 s0_2 s0_3 s0_4 s0_5 from hz HI0.out)))); replace HI0 := am (IsS63.below (show IsS63 w0 ((((((w15.setCell ⟨gb291, 0, none⟩ (.int .i64 ((rd_T136 s0_0 s0_1).f0))).setCell ⟨gb291, 1, none⟩ (.int .i64 ((rd_T136 s0_0 s0_1).f1))).setCell ⟨gb291, 2, none⟩ (.string ((rd_T136 s0_0 s0_1).f2))).setCell ⟨gb291, 3, none⟩ (.int .i64 ((rd_T136 s0_0 s0_1).f3.f0))).setCell ⟨gb291, 4, none⟩ (.int .i64 ((rd_T136 s0_0 s0_1).f3.f1))).setCell ⟨gb291, 5, none⟩ (.int .i64 ((rd_T136 s0_0 s0_1).f4))) g s0_0 s0_1 s0_2 s0_3 s0_4 s0_5 from hz HI0.out) hb); clear hb hbox hg; have hnb23 := NB292_289.out; have hnc23 := NB289_292.out; have hnb24 := NB292_291.out; have hnc24 := NB291_292.out; have hnb25 := NB292_0.out; have hnc25 := NB0_292.out; obtain ⟨Z26_0, Z26_1, Z26_2, Z26_3, Z26_4, F26_0, F26_1, F26_2, F26_3, F26_4⟩ := cz5 BK292.out))
     (try simp only [Act.put, List.setIfInBounds_toArray, List.set_cons_zero, List.set_cons_succ])
     go_cut [] (fun wc => ∃ (kq : Nat) (x1001_11 x1002_11 x1003_11 x1004_11 x1005_11 x290000_11 x290001_11 x290002_11 : Int) (x290003_11 : ByteArray) (x290004_11 x293000_11 x293001_11 x293002_11 : Int) (x293003_11 : ByteArray) (x293004_11 : Int), Aside0 (expr_Parser_Value.j1 kq s0_0 x1001_11 x1002_11 x1003_11 x1004_11 x1005_11 x293000_11 x293001_11 x293002_11 x293003_11 x293004_11 = some (r1, r2, r3, r4, r5, r6, r7, r8, r9, r10, r11)) ∧ Aside0 (kq ≤ kj1) ∧ Aside0 (wc.heap[gb289]? = some (.cells #[.int .i64 x290000_11, .int .i64 x290001_11, .int .i64 x290002_11, .string x290003_11, .int .i64 x290004_11] 25 (0, 0))) ∧ Aside0 (wc.heap[gb291]? = some (.cells #[.int .i64 ((rd_T136 s0_0 s0_1).f0), .int .i64 ((rd_T136 s0_0 s0_1).f1), .string ((rd_T136 s0_0 s0_1).f2), .int .i64 ((rd_T136 s0_0 s0_1).f3.f0), .int .i64 ((rd_T136 s0_0 s0_1).f3.f1), .int .i64 ((rd_T136 s0_0 s0_1).f4)] 136 (0, 0))) ∧ Aside0 (wc.heap[gb292]? = some (.cells #[.int .i64 x293000_11, .int .i64 x293001_11, .int .i64 x293002_11, .string x293003_11, .int .i64 x293004_11] 25 (0, 0))) ∧ Aside0 (IsS63 w0 wc g s0_0 x1001_11 x1002_11 x1003_11 x1004_11 x1005_11) ∧ Aside0 (KeepBut w wc g none) ∧ Aside0 (Below w0.heap.size w0 wc))
     case first =>
      have H := HC12.out
      clear HC12
      have HC27 := am H
      clear H
      have hnb28 := NB291_289.out
      have hnc28 := NB289_291.out
      have hnb29 := NB291_292.out
      have hnc29 := NB292_291.out
      have hnb30 := NB291_0.out
      have hnc30 := NB0_291.out
      obtain ⟨Z31_0, Z31_1, Z31_2, Z31_3, Z31_4, Z31_5, F31_0, F31_1, F31_2, F31_3, F31_4, F31_5⟩ := cz6 BK291.out
      go_upto_if 35 with (fail)
      have H := HC27.out
      clear HC27
      clear Z31_0 Z31_1 Z31_2 Z31_3 Z31_4 Z31_5 F31_0 F31_1 F31_2 F31_3 F31_4 F31_5
      by_cases c32 : ((rd_T136 s0_0 s0_1).f0) = 1
      ·replace H := ipe c32 H
       obtain ⟨H, c32b0, c32b1⟩ := H
       clear c32
       (first | rw [c32b0] | (simp only [i64_w, i32_w]; rw [c32b0]) | skip)
       have H' := am H
       clear H
       have hnb33 := NB291_289.out
       have hnc33 := NB289_291.out
       have hnb34 := NB291_292.out
       have hnc34 := NB292_291.out
       have hnb35 := NB291_0.out
       have hnc35 := NB0_291.out
       obtain ⟨Z36_0, Z36_1, Z36_2, Z36_3, Z36_4, Z36_5, F36_0, F36_1, F36_2, F36_3, F36_4, F36_5⟩ := cz6 BK291.out
       have hnb37 := NB292_289.out
       have hnc37 := NB289_292.out
       have hnb38 := NB292_0.out
       have hnc38 := NB0_292.out
       obtain ⟨Z39_0, Z39_1, Z39_2, Z39_3, Z39_4, F39_0, F39_1, F39_2, F39_3, F39_4⟩ := cz5 BK292.out
       go_wp2
       go_meet
       case rel => exact ⟨_, (s0_1), (s0_2), (s0_3), (s0_4), (s0_5), (0), (0), (0), ((⟨#[]⟩ : ByteArray)), (0), (1), ((rd_T136 s0_0 s0_1).f3.f0), ((rd_T136 s0_0 s0_1).f3.f1), ((⟨#[]⟩ : ByteArray)), (0), H', ⟨oa HJ1⟩, ⟨bp BK289.out⟩, ⟨bp BK291.out⟩, ⟨bp BK292.out⟩, ⟨hz HI0.out⟩, ⟨kz HK.out⟩, ⟨bz HB.out⟩⟩
      replace H := ine c32 H
      obtain ⟨H, c32b0, c32b1⟩ := H
      (first | rw [c32b0] | (simp only [i64_w, i32_w]; rw [c32b0]) | skip)
      by_cases c40 : ((rd_T136 s0_0 s0_1).f0) = 2
      ·rw [if_pos c40] at H
       exact absurd H (by simp)
      replace H := ine c40 H
      obtain ⟨H, c40b0, c40b1⟩ := H
      by_cases c41 : ((rd_T136 s0_0 s0_1).f0) = 3
      ·rw [if_pos c41] at H
       exact absurd H (by simp)
      replace H := ine c41 H
      obtain ⟨H, c41b0, c41b1⟩ := H
      replace H := obe6 H
      obtain ⟨t293, t294, t295, t296, t297, t298, A42, H⟩ := H
      by_cases c43 : t293 = true
      ·subst c43
       replace H := ift H
       exact absurd H (by simp)
      replace c43 := Bool.eq_false_iff.mpr c43
      subst c43
      replace H := iff_ H
      replace H := obe6 H
      obtain ⟨t299, t300, t301, t302, t303, t304, A44, H⟩ := H
      by_cases c45 : t299 = true
      ·subst c45
       replace H := ift H
       exact absurd H (by simp)
      replace c45 := Bool.eq_false_iff.mpr c45
      subst c45
      replace H := iff_ H
      replace H := obe6 H
      obtain ⟨t305, t306, t307, t308, t309, t310, A46, H⟩ := H
      have HC47 := am H
      clear H
      have hnb48 := NB291_289.out
      have hnc48 := NB289_291.out
      have hnb49 := NB291_292.out
      have hnc49 := NB292_291.out
      have hnb50 := NB291_0.out
      have hnc50 := NB0_291.out
      obtain ⟨Z51_0, Z51_1, Z51_2, Z51_3, Z51_4, Z51_5, F51_0, F51_1, F51_2, F51_3, F51_4, F51_5⟩ := cz6 BK291.out
      go_upto_if 64 with (first | ((with_reducible refine gate_callee (f := 107) rfl ?_); refine gl_ (some 58) Tryz.func107 (by kernel_rfl) #[.pointer (some ⟨g, 0, none⟩), .string (⟨#[116, 114, 117, 101]⟩ : ByteArray)] rfl ?_; (with_reducible refine (expr_Parser_Is.calls kj1 g s0_0 s0_1 s0_2 s0_3 s0_4 s0_5 (⟨#[116, 114, 117, 101]⟩ : ByteArray) false t294 t295 t296 t297 t298 w0 _ ?side1 ?side2 A42.out).mono ?_); (case side1 => exact hz HI0.out); (case side2 => exact bz HB.out); rintro e w52 ⟨rfl, hi, hb, hk⟩; refine ⟨_, rfl, ?_⟩; replace BK289 := am (KeepBut.blk hk (g' := gb289) (o := .cells #[.int .i64 0, .int .i64 0, .int .i64 0, .string (⟨#[]⟩ : ByteArray), .int .i64 0] 25 (0, 0)) (bp BK289.out) NB289_0.out (by simp)); replace BK291 := am (KeepBut.blk hk (g' := gb291) (o := .cells #[.int .i64 ((rd_T136 s0_0 s0_1).f0), .int .i64 ((rd_T136 s0_0 s0_1).f1), .string ((rd_T136 s0_0 s0_1).f2), .int .i64 ((rd_T136 s0_0 s0_1).f3.f0), .int .i64 ((rd_T136 s0_0 s0_1).f3.f1), .int .i64 ((rd_T136 s0_0 s0_1).f4)] 136 (0, 0)) (bp BK291.out) NB291_0.out (by simp)); replace BK292 := am (KeepBut.blk hk (g' := gb292) (o := .cells #[.int .i64 0, .int .i64 0, .int .i64 0, .string (⟨#[]⟩ : ByteArray), .int .i64 0] 25 (0, 0)) (bp BK292.out) NB292_0.out (by simp)); replace HK := am (KeepBut.trans (kz HK.out) hk (.inl rfl)); replace HB := am (hb); replace HI0 := am (hi); clear hb hk hi) | ((with_reducible refine gate_callee (f := 107) rfl ?_); refine gl_ (some 62) Tryz.func107 (by kernel_rfl) #[.pointer (some ⟨g, 0, none⟩), .string (⟨#[102, 97, 108, 115, 101]⟩ : ByteArray)] rfl ?_; (with_reducible refine (expr_Parser_Is.calls kj1 g s0_0 t294 t295 t296 t297 t298 (⟨#[102, 97, 108, 115, 101]⟩ : ByteArray) false t300 t301 t302 t303 t304 w0 _ ?side1 ?side2 A44.out).mono ?_); (case side1 => exact hz HI0.out); (case side2 => exact bz HB.out); rintro e w53 ⟨rfl, hi, hb, hk⟩; refine ⟨_, rfl, ?_⟩; replace BK289 := am (KeepBut.blk hk (bk BK289.out) NB289_0.out (by simp)); replace BK291 := am (KeepBut.blk hk (bk BK291.out) NB291_0.out (by simp)); replace BK292 := am (KeepBut.blk hk (bk BK292.out) NB292_0.out (by simp)); replace HK := am (KeepBut.trans (kz HK.out) hk (.inl rfl)); replace HB := am (hb); replace HI0 := am (hi); clear hb hk hi) | ((with_reducible refine gate_callee (f := 107) rfl ?_); refine gl_ (some 66) Tryz.func107 (by kernel_rfl) #[.pointer (some ⟨g, 0, none⟩), .string (⟨#[110, 117, 108, 108]⟩ : ByteArray)] rfl ?_; (with_reducible refine (expr_Parser_Is.calls kj1 g s0_0 t300 t301 t302 t303 t304 (⟨#[110, 117, 108, 108]⟩ : ByteArray) t305 t306 t307 t308 t309 t310 w0 _ ?side1 ?side2 A46.out).mono ?_); (case side1 => exact hz HI0.out); (case side2 => exact bz HB.out); rintro e w54 ⟨rfl, hi, hb, hk⟩; refine ⟨_, rfl, ?_⟩; replace BK289 := am (KeepBut.blk hk (bk BK289.out) NB289_0.out (by simp)); replace BK291 := am (KeepBut.blk hk (bk BK291.out) NB291_0.out (by simp)); replace BK292 := am (KeepBut.blk hk (bk BK292.out) NB292_0.out (by simp)); replace HK := am (KeepBut.trans (kz HK.out) hk (.inl rfl)); replace HB := am (hb); replace HI0 := am (hi); clear hb hk hi))
      (try simp only [Act.put, List.setIfInBounds_toArray, List.set_cons_zero, List.set_cons_succ])
      have H := HC47.out
      clear HC47
      clear Z51_0 Z51_1 Z51_2 Z51_3 Z51_4 Z51_5 F51_0 F51_1 F51_2 F51_3 F51_4 F51_5
      by_cases c55 : t305 = true
      ·subst c55
       replace H := ift H
       have H' := am H
       clear H
       go_wp2
       go_meet
       case rel => exact ⟨_, (t306), (t307), (t308), (t309), (t310), (0), (0), (0), ((⟨#[]⟩ : ByteArray)), (0), (0), (0), (0), ((⟨#[]⟩ : ByteArray)), (0), H', ⟨oa HJ1⟩, ⟨bk BK289.out⟩, ⟨bk BK291.out⟩, ⟨bk BK292.out⟩, ⟨hz HI0.out⟩, ⟨kz HK.out⟩, ⟨bz HB.out⟩⟩
      replace c55 := Bool.eq_false_iff.mpr c55
      subst c55
      replace H := iff_ H
      simp only [Option.some.injEq, Prod.mk.injEq] at H
      obtain ⟨rfl, rfl, rfl, rfl, rfl, rfl, rfl, rfl, rfl, rfl, rfl⟩ := H
      have hnb56 := NB292_289.out
      have hnc56 := NB289_292.out
      have hnb57 := NB292_291.out
      have hnc57 := NB291_292.out
      have hnb58 := NB292_0.out
      have hnc58 := NB0_292.out
      obtain ⟨Z59_0, Z59_1, Z59_2, Z59_3, Z59_4, F59_0, F59_1, F59_2, F59_3, F59_4⟩ := cz5 BK292.out
      have hnb60 := NB289_291.out
      have hnc60 := NB291_289.out
      have hnb61 := NB289_0.out
      have hnc61 := NB0_289.out
      obtain ⟨Z62_0, Z62_1, Z62_2, Z62_3, Z62_4, F62_0, F62_1, F62_2, F62_3, F62_4⟩ := cz5 BK289.out
      go_wp2
      refine bodyPost_ret (results_ct rfl _ _ gb289 25 #[.int .i64 0, .int .i64 0, .int .i64 0, .string (⟨#[]⟩ : ByteArray), .int .i64 0] (0, 0) _ rfl (bp BK289.out) Tryz.underlying25 rfl (by kernel_rfl)) rfl ?_
      exact ⟨az, hz HI0.out, bz HB.out, kz HK.out⟩
     case rest =>
      clear HC12
      try clear c4; try clear c4b0; try clear c4b1; try clear c9; try clear c10; try clear c10b0; try clear c11; try clear c11b0; try clear Z14_0; try clear Z14_1; try clear Z14_2; try clear Z14_3; try clear Z14_4; try clear Z14_5; try clear Z26_0; try clear Z26_1; try clear Z26_2; try clear Z26_3; try clear Z26_4; try clear Z6_0; try clear Z6_1; try clear Z6_2; try clear Z6_3; try clear Z6_4; try clear Z6_5; try clear Z8_0; try clear Z8_1; try clear Z8_2; try clear Z8_3; try clear Z8_4; try clear Z8_5; try clear F14_1; try clear F14_2; try clear F14_3; try clear F14_4; try clear F14_5; try clear F26_0; try clear F26_1; try clear F26_2; try clear F26_3; try clear F26_4; try clear F6_1; try clear F6_2; try clear F6_3; try clear F6_4; try clear F6_5; try clear F8_1; try clear F8_2; try clear F8_3; try clear F8_4; try clear F8_5; try clear hx290_0; try clear hx290_1; try clear hx290_2; try clear hx290_3; try clear hx290_4; try clear hx290_5; try clear p290; try clear q290
      obtain ⟨kq, x1001_11, x1002_11, x1003_11, x1004_11, x1005_11, x290000_11, x290001_11, x290002_11, x290003_11, x290004_11, x293000_11, x293001_11, x293002_11, x293003_11, x293004_11, HA, HJ11, BK289, BK291, BK292, HI0, HK, HB⟩ := hcut
      cases kq with
      | zero => exact absurd HA.out (by simp [expr_Parser_Value.j1])
      | succ kj11 =>
       have H := HA.out
       clear HA
       simp only [expr_Parser_Value.j1] at H
       simp only [Option.some.injEq, Prod.mk.injEq] at H
       obtain ⟨rfl, rfl, rfl, rfl, rfl, rfl, rfl, rfl, rfl, rfl, rfl⟩ := H
       obtain ⟨ASz63_0, cSz63_0, HSz63_0, Z63_0, Z63_1, Z63_2, Z63_3, Z63_4, Z63_5, F63_1, F63_2, F63_3, F63_4, F63_5⟩ := open63 HI0.out
       have hnb64 := NB292_289.out
       have hnc64 := NB289_292.out
       have hnb65 := NB292_291.out
       have hnc65 := NB291_292.out
       have hnb66 := NB292_0.out
       have hnc66 := NB0_292.out
       obtain ⟨Z67_0, Z67_1, Z67_2, Z67_3, Z67_4, F67_0, F67_1, F67_2, F67_3, F67_4⟩ := cz5 BK292.out
       have hnb68 := NB289_291.out
       have hnc68 := NB291_289.out
       have hnb69 := NB289_0.out
       have hnc69 := NB0_289.out
       obtain ⟨Z70_0, Z70_1, Z70_2, Z70_3, Z70_4, F70_0, F70_1, F70_2, F70_3, F70_4⟩ := cz5 BK289.out
       go_wp2
       refine bodyPost_ret (results_ct rfl _ _ gb289 25 #[.int .i64 x293000_11, .int .i64 x293001_11, .int .i64 x293002_11, .string x293003_11, .int .i64 x293004_11] (0, 0) _ rfl (bp BK289.out) Tryz.underlying25 rfl (by kernel_rfl)) rfl ?_
       exact ⟨az, hz HI0.out, bz HB.out, kz HK.out⟩
    rw [if_neg c11] at H
    exact absurd H (by simp)
   rw [if_neg c10] at H
   exact absurd H (by simp)
end Go.Proofs.YtgkemhgihbfmmaaGreatDoor.PA
end
section
namespace Go.Proofs.YtgkemhgihbfmmaaGreatDoor.PA
open Go.RowKit Go.Proofs.YtgkemhgihbfmmaaGreatDoorW.PrintWords Go.Proofs.YtgkemhgihbfmmaaGreatDoorW.PrintLast Go.Proofs.YtgkemhgihbfmmaaGreatDoorW.PrintMore
attribute [local go_sem] max2_int min2_int max_two min_two max_three min_three max_four min_four isSome_set str_gtr
set_option linter.unusedVariables false
set_option linter.unusedSimpArgs false
end Go.Proofs.YtgkemhgihbfmmaaGreatDoor.PA
end
section
namespace Go.Proofs.YtgkemhgihbfmmaaGreatDoor.PA
open Go.RowKit Go.Proofs.YtgkemhgihbfmmaaGreatDoorW.PrintWords Go.Proofs.YtgkemhgihbfmmaaGreatDoorW.PrintLast Go.Proofs.YtgkemhgihbfmmaaGreatDoorW.PrintMore
def isFrom (k : Nat) (l0 : List ByteArray) (s0 : List S136) : Nat → Nat → Int → Int → Int → Int → Int → Option (Int × Int × Int × Int × Int × Int)
  | 0, _, x1, x2, x3, x4, x5 => some (-1, x1, x2, x3, x4, x5)
  | n + 1, i, x1, x2, x3, x4, x5 => (expr_Parser_Is.f k s0 x1 x2 x3 x4 x5 (rdOf ByteArray.empty l0 (i : Int))).bind fun r => if r.1 = true then some ((i : Int), r.2.1, r.2.2.1, r.2.2.2.1, r.2.2.2.2.1, r.2.2.2.2.2) else isFrom k l0 s0 n (i + 1) r.2.1 r.2.2.1 r.2.2.2.1 r.2.2.2.2.1 r.2.2.2.2.2
def standin_IndexIs.f (k : Nat) (l0 : List ByteArray) (s1_0 : List S136) (s1_1 s1_2 s1_3 s1_4 s1_5 : Int) : Option (Int × Int × Int × Int × Int × Int) := if l0.length < 4611686018427387904 then isFrom k l0 s1_0 l0.length 0 s1_1 s1_2 s1_3 s1_4 s1_5 else none
theorem isFrom_mono (l0 : List ByteArray) (s0 : List S136) (k : Nat) : ∀ (n i : Nat) (x1 x2 x3 x4 x5 : Int), LeO (isFrom k l0 s0 n i x1 x2 x3 x4 x5) (isFrom (k + 1) l0 s0 n i x1 x2 x3 x4 x5)
  | 0, _, _, _, _, _, _ => LeO.refl _
  | n + 1, i, x1, x2, x3, x4, x5 => by
    unfold isFrom
    refine LeO.bind (expr_Parser_Is.mono _ _ _ _ _ _ _ k) (fun r => ?_)
    refine LeO.ite (LeO.refl _) (isFrom_mono l0 s0 k n (i + 1) _ _ _ _ _)
theorem standin_IndexIs.mono : ∀ a0 a1 a2 a3 a4 a5 a6 k, LeO (standin_IndexIs.f k a0 a1 a2 a3 a4 a5 a6) (standin_IndexIs.f (k + 1) a0 a1 a2 a3 a4 a5 a6) := fun a0 a1 a2 a3 a4 a5 a6 k => LeO.ite (isFrom_mono a0 a1 k _ _ _ _ _ _ _) (LeO.refl _)
theorem state_no_string {w0 w : World} {g : Nat} {f0 : List S136} {f1 f2 f3 f4 f5 : Int} (h : IsS63 w0 w g f0 f1 f2 f3 f4 f5) {p : Addr} {x : ByteArray} (hc : w.cell? p = some (.string x)) : p.block ≠ g := by
  obtain ⟨A, c, hb, _, _⟩ := h
  intro e
  subst e
  unfold World.cell? at hc
  rw [hb] at hc
  simp only at hc
  split at hc
  · cases hc
  · obtain ⟨b, o, s⟩ := p
    match o, hc with
    | 0, hc => simp at hc
    | 1, hc => simp at hc
    | 2, hc => simp at hc
    | 3, hc => simp at hc
    | 4, hc => simp at hc
    | 5, hc => simp at hc
    | o + 6, hc => simp at hc
set_option maxHeartbeats 4000000 in
set_option maxRecDepth 100000 in
theorem standin_IndexIs.calls (k : Nat) (A0 : Option Addr) (c0 : Nat) (l0 : List ByteArray) (g : Nat) (s1_0 : List S136) (s1_1 s1_2 s1_3 s1_4 s1_5 r r1 r2 r3 r4 r5 : Int) (w0 w : World) (hI : IsS63 w0 w g s1_0 s1_1 s1_2 s1_3 s1_4 s1_5) (hB : Below w0.heap.size w0 w) (hr0 : Kd.C Kd.string w A0 l0.length l0) (hc0 : l0.length ≤ c0)
    (h : standin_IndexIs.f k l0 s1_0 s1_1 s1_2 s1_3 s1_4 s1_5 = some (r, r1, r2, r3, r4, r5)) :
    Calls Tryz.prog 110 #[.slice A0 l0.length c0, .func (.func 107) #[.pointer (some ⟨g, 0, none⟩)] #[]] w fun e w' => e = .returned (.int .i64 r) ∧ IsS63 w0 w' g s1_0 r1 r2 r3 r4 r5 ∧ Below w0.heap.size w0 w' ∧ KeepBut w w' g none := by
  have eg : ∀ args w, (callFunc 107 args).run Tryz.prog w = .ok (.enter 107 args) w := enters_of Tryz.func107 (by kernel_rfl) rfl
  have hbig : l0.length < 4611686018427387904 := by
    unfold standin_IndexIs.f at h
    split at h
    · assumption
    · cases h
  unfold standin_IndexIs.f at h
  rw [if_pos hbig] at h
  have H0 : Aside0 (isFrom k l0 s1_0 l0.length 0 s1_1 s1_2 s1_3 s1_4 s1_5 = some (r, r1, r2, r3, r4, r5)) := ⟨h⟩
  have HI := Aside0.mk hI
  have HB := Aside0.mk hB
  have HR := Aside0.mk hr0
  clear h hI hB hr0
  go_enter Tryz.func110, Tryz.ntmps110
  go_wp2
  go_loopg [5, 8] l0.length (fun gg _ s8 wr => ∃ (kk : Nat) (x1 x2 x3 x4 x5 : Int), kk + gg = l0.length ∧ s8 = .int .i64 kk ∧ Aside0 (isFrom k l0 s1_0 gg kk x1 x2 x3 x4 x5 = some (r, r1, r2, r3, r4, r5)) ∧ Aside0 (IsS63 w0 wr g s1_0 x1 x2 x3 x4 x5) ∧ Aside0 (Below w0.heap.size w0 wr) ∧ Aside0 (KeepBut w wr g none))
  case atStart => exact ⟨0, s1_1, s1_2, s1_3, s1_4, s1_5, Nat.zero_add _, rfl, H0, HI, HB, ⟨KeepBut.refl w g none⟩⟩
  case round =>
    obtain ⟨kk, x1, x2, x3, x4, x5, hkg, rfl, HA, HI1, HB1, HK1⟩ := hrel
    cases gk with
    | zero =>
      have d1 : decide ((kk : Int) < (l0.length : Int)) = false := decide_eq_false (by omega)
      have hA := HA.out
      simp only [isFrom, Option.some.injEq, Prod.mk.injEq] at hA
      obtain ⟨rfl, rfl, rfl, rfl, rfl, rfl⟩ := hA
      go_wp2
      go_ret
      exact ⟨rfl, HI1.out, HB1.out, HK1.out⟩
    | succ n =>
      have d1 : decide ((kk : Int) < (l0.length : Int)) = true := decide_eq_true (by omega)
      have p1 : (0 : Int) ≤ (kk : Int) := by omega
      have q1 : (kk : Int) < (l0.length : Int) := by omega
      obtain ⟨ad, e1, hx⟩ := Kd.at_string HR.out (kk : Int) p1 q1
      cases e1
      have hne := state_no_string HI.out hx
      replace hx := keep_cell HK1.out hx hne
      have hx2 : wr.cell? (ad.add kk) = some (.string (rdOf ByteArray.empty l0 (kk : Int))) := hx
      have i1 := eq_true p1
      have i2 := eq_true q1
      have hA := HA.out
      simp only [isFrom] at hA
      replace hA := Option.bind_eq_some_iff.mp hA
      obtain ⟨⟨b, y1, y2, y3, y4, y5⟩, hIs, hA⟩ := hA
      have cI := expr_Parser_Is.calls k g s1_0 x1 x2 x3 x4 x5 (rdOf ByteArray.empty l0 (kk : Int)) b y1 y2 y3 y4 y5 w0 wr HI1.out HB1.out hIs
      have HA2 := Aside0.mk hA
      clear hA hIs hne
      cases b with
      | true =>
        have hr := HA2.out
        simp only [if_true, Option.some.injEq, Prod.mk.injEq] at hr
        obtain ⟨rfl, rfl, rfl, rfl, rfl, rfl⟩ := hr
        go_wp2_with (go_at_fn 107; refine cI.mono ?_; rintro e w' ⟨rfl, hi, hb, hk⟩)
        go_ret
        exact ⟨rfl, hi, hb, KeepBut.trans HK1.out hk (.inl rfl)⟩
      | false =>
        have hr := HA2.out
        simp only [Bool.false_eq_true, if_false] at hr
        have HA3 := Aside0.mk hr
        clear hr
        go_wp2_with (go_at_fn 107; refine cI.mono ?_; rintro e w' ⟨rfl, hi, hb, hk⟩)
        go_roundg n
        case measure => omega
        case rel => exact ⟨kk + 1, y1, y2, y3, y4, y5, by omega, by go_num, HA3, ⟨hi⟩, ⟨hb⟩, ⟨KeepBut.trans HK1.out hk (.inl rfl)⟩⟩
end Go.Proofs.YtgkemhgihbfmmaaGreatDoor.PA
end
section
namespace Go.Proofs.YtgkemhgihbfmmaaGreatDoor.PA
open Go.RowKit Go.Proofs.YtgkemhgihbfmmaaGreatDoorW.PrintWords Go.Proofs.YtgkemhgihbfmmaaGreatDoorW.PrintLast Go.Proofs.YtgkemhgihbfmmaaGreatDoorW.PrintMore
attribute [local go_sem] max2_int min2_int max_two min_two max_three min_three max_four min_four isSome_set str_gtr
set_option linter.unusedVariables false
set_option linter.unusedSimpArgs false
end Go.Proofs.YtgkemhgihbfmmaaGreatDoor.PA
end
section
namespace Go.Proofs.YtgkemhgihbfmmaaGreatDoor.PA
open Go.RowKit Go.Proofs.YtgkemhgihbfmmaaGreatDoorW.PrintWords Go.Proofs.YtgkemhgihbfmmaaGreatDoorW.PrintLast Go.Proofs.YtgkemhgihbfmmaaGreatDoorW.PrintMore
attribute [local go_sem] max2_int min2_int max_two min_two max_three min_three max_four min_four isSome_set str_gtr
set_option linter.unusedVariables false
set_option linter.unusedSimpArgs false
end Go.Proofs.YtgkemhgihbfmmaaGreatDoor.PA
end
section
namespace Go.Proofs.YtgkemhgihbfmmaaGreatDoor.PA
open Go.RowKit Go.Proofs.YtgkemhgihbfmmaaGreatDoorW.PrintWords Go.Proofs.YtgkemhgihbfmmaaGreatDoorW.PrintLast Go.Proofs.YtgkemhgihbfmmaaGreatDoorW.PrintMore
attribute [local go_sem] max2_int min2_int max_two min_two max_three min_three max_four min_four isSome_set str_gtr
set_option linter.unusedVariables false
set_option linter.unusedSimpArgs false
def expr_Parser_Need.f (k : Nat) (s0_0 : List (S136)) (s0_1 s0_2 s0_3 s0_4 s0_5 : Int) (a1 : ByteArray) : Option (Int × Int × Int × Int × Int) := (expr_Parser_Take.f k s0_0 s0_1 s0_2 s0_3 s0_4 s0_5 a1).bind fun bt311 => (if bt311.1 = true then (some (bt311.2.1, bt311.2.2.1, bt311.2.2.2.1, bt311.2.2.2.2.1, bt311.2.2.2.2.2)) else (none))
theorem expr_Parser_Need.mono : ∀ a0 a1 a2 a3 a4 a5 a6 k, LeO (expr_Parser_Need.f k a0 a1 a2 a3 a4 a5 a6) (expr_Parser_Need.f (k + 1) a0 a1 a2 a3 a4 a5 a6) := by
 intro a0 a1 a2 a3 a4 a5 a6 k
 unfold expr_Parser_Need.f
 have q0 := @expr_Parser_Take.mono; exact lmo
set_option maxHeartbeats 8000000 in
set_option maxRecDepth 100000 in
theorem expr_Parser_Need.calls (k : Nat) (g : Nat) (s0_0 : List (S136)) (s0_1 s0_2 s0_3 s0_4 s0_5 : Int) (a1 : ByteArray) (r1 r2 r3 r4 r5 : Int) (w0 w : World) (hI : IsS63 w0 w g s0_0 s0_1 s0_2 s0_3 s0_4 s0_5) (hB : Below w0.heap.size w0 w) (h : expr_Parser_Need.f k s0_0 s0_1 s0_2 s0_3 s0_4 s0_5 a1 = some (r1, r2, r3, r4, r5)) :
  Calls Tryz.prog 65 #[.pointer (some ⟨g, 0, none⟩), .string a1] w fun e w' => e = .returned (.tuple #[]) ∧ IsS63 w0 w' g s0_0 r1 r2 r3 r4 r5 ∧ Below w0.heap.size w0 w' ∧ KeepBut w w' g none := by
 have HI0 := am hI
 have HK := am (KeepBut.refl w g none)
 have HL := am hB.size
 clear hI
 have HW0 := am hB.size
 have HB := am hB
 clear hB
 have H : ((expr_Parser_Take.f k s0_0 s0_1 s0_2 s0_3 s0_4 s0_5 a1).bind fun bt311 => (if bt311.1 = true then (some (bt311.2.1, bt311.2.2.1, bt311.2.2.2.1, bt311.2.2.2.2.1, bt311.2.2.2.2.2)) else (none))) = some (r1, r2, r3, r4, r5) := h
 clear h
 replace H := obe6 H
 obtain ⟨t311, t312, t313, t314, t315, t316, A3, H⟩ := H
 by_cases c4 : t311 = true
 ·subst c4
  replace H := ift H
  simp only [Option.some.injEq, Prod.mk.injEq] at H
  obtain ⟨rfl, rfl, rfl, rfl, rfl⟩ := H
  go_enter Tryz.func65, Tryz.ntmps65
  go_wp2_with (first | ((with_reducible refine gate_callee (f := 63) rfl ?_); refine gl_ (some 6) Tryz.func63 (by kernel_rfl) #[.pointer (some ⟨g, 0, none⟩), .string a1] rfl ?_; (with_reducible refine (expr_Parser_Take.calls k g s0_0 s0_1 s0_2 s0_3 s0_4 s0_5 a1 true t312 t313 t314 t315 t316 w0 _ ?side1 ?side2 A3.out).mono ?_); (case side1 => exact hz HI0.out); (case side2 => exact bz HB.out); rintro e w5 ⟨rfl, hi, hb, hk⟩; refine ⟨_, rfl, ?_⟩; replace HK := am (KeepBut.trans (kz HK.out) hk (.inl rfl)); replace HB := am (hb); replace HI0 := am (hi); clear hb hk hi))
  first | go_end0 | ((try simp only [Exit.inBlock, Exit.then]); refine bodyPost_ret (results_none rfl _ _ _) rfl ?_)
  exact ⟨az, hz HI0.out, bz HB.out, kz HK.out⟩
 replace c4 := Bool.eq_false_iff.mpr c4
 subst c4
 replace H := iff_ H
 exact absurd H (by simp)
end Go.Proofs.YtgkemhgihbfmmaaGreatDoor.PA
end
section
namespace Go.Proofs.YtgkemhgihbfmmaaGreatDoor.PA
open Go.RowKit Go.Proofs.YtgkemhgihbfmmaaGreatDoorW.PrintWords Go.Proofs.YtgkemhgihbfmmaaGreatDoorW.PrintLast Go.Proofs.YtgkemhgihbfmmaaGreatDoorW.PrintMore
attribute [local go_sem] max2_int min2_int max_two min_two max_three min_three max_four min_four isSome_set str_gtr
set_option linter.unusedVariables false
set_option linter.unusedSimpArgs false
mutual
def expr_Parser_prefix.j0 : Nat → Bool → List (S136) → Int → Int → Int → Int → Int → Option (Int × Int × Int × Int × ByteArray × Int × ByteArray × (List (S31)) × Int × Int × Int × Int × Int)
 | 0, _, _, _, _, _, _, _ => none
 | k + 1, x99, x1000, x1001, x1002, x1003, x1004, x1005 => if x99 = true then ((expr_Parser_make.f x1000 x1001 x1002 x1003 x1004 x1005 2 ([] : List (S31))).bind fun bt609 => (if 0 ≤ bt609.2.2.2.2.2.2.2.2.1 then (if bt609.2.2.2.2.2.2.2.2.1 < (x1000.length : Int) then (some (bt609.1, bt609.2.1, bt609.2.2.1, bt609.2.2.2.1, bt609.2.2.2.2.1, bt609.2.2.2.2.2.1, (rd_T136 x1000 bt609.2.2.2.2.2.2.2.2.1).f2, bt609.2.2.2.2.2.2.2.1, wrap64 (bt609.2.2.2.2.2.2.2.2.1 + 1), bt609.2.2.2.2.2.2.2.2.2.1, bt609.2.2.2.2.2.2.2.2.2.2.1, bt609.2.2.2.2.2.2.2.2.2.2.2.1, bt609.2.2.2.2.2.2.2.2.2.2.2.2)) else (none)) else (none))) else (none)
def expr_Parser_prefix.f : Nat → List (S136) → Int → Int → Int → Int → Int → Int → Option (Int × Int × Int × Int × ByteArray × Int × ByteArray × (List (S31)) × Int × Int × Int × Int × Int)
 | 0, _, _, _, _, _, _, _ => none
 | k + 1, s0_0, s0_1, s0_2, s0_3, s0_4, s0_5, a1 => if s0_4 = 0 then ((expr_Parser_Take.f k s0_0 s0_1 s0_2 s0_3 s0_4 s0_5 (⟨#[45]⟩ : ByteArray)).bind fun bt560 => (if bt560.1 = true then (none) else ((expr_Parser_Take.f k s0_0 bt560.2.1 bt560.2.2.1 bt560.2.2.2.1 bt560.2.2.2.2.1 bt560.2.2.2.2.2 (⟨#[40]⟩ : ByteArray)).bind fun bt566 => (if bt566.1 = true then (none) else ((expr_Parser_Take.f k s0_0 bt566.2.1 bt566.2.2.1 bt566.2.2.2.1 bt566.2.2.2.2.1 bt566.2.2.2.2.2 (⟨#[110, 111, 116]⟩ : ByteArray)).bind fun bt572 => (if bt572.1 = true then (none) else ((expr_Parser_Value.f k s0_0 bt572.2.1 bt572.2.2.1 bt572.2.2.2.1 bt572.2.2.2.2.1 bt572.2.2.2.2.2).bind fun bt578 => (if bt578.2.2.2.2.2.1 = true then ((expr_Parser_make.f s0_0 bt578.2.2.2.2.2.2.1 bt578.2.2.2.2.2.2.2.1 bt578.2.2.2.2.2.2.2.2.1 bt578.2.2.2.2.2.2.2.2.2.1 bt578.2.2.2.2.2.2.2.2.2.2 1 ([] : List (S31))).bind fun bt590 => (some (bt590.1, bt578.1, bt578.2.1, bt578.2.2.1, bt578.2.2.2.1, bt578.2.2.2.2.1, bt590.2.2.2.2.2.2.1, bt590.2.2.2.2.2.2.2.1, bt590.2.2.2.2.2.2.2.2.1, bt590.2.2.2.2.2.2.2.2.2.1, bt590.2.2.2.2.2.2.2.2.2.2.1, bt590.2.2.2.2.2.2.2.2.2.2.2.1, bt590.2.2.2.2.2.2.2.2.2.2.2.2))) else (if bt578.2.2.2.2.2.2.1 < (s0_0.length : Int) then (if 0 ≤ bt578.2.2.2.2.2.2.1 then (if ((rd_T136 s0_0 bt578.2.2.2.2.2.2.1).f0) = 4 then ((lex_Word.f k ((rd_T136 s0_0 bt578.2.2.2.2.2.2.1).f2)).bind fun t608 => (expr_Parser_prefix.j0 k t608 s0_0 bt578.2.2.2.2.2.2.1 bt578.2.2.2.2.2.2.2.1 bt578.2.2.2.2.2.2.2.2.1 bt578.2.2.2.2.2.2.2.2.2.1 bt578.2.2.2.2.2.2.2.2.2.2)) else (expr_Parser_prefix.j0 k false s0_0 bt578.2.2.2.2.2.2.1 bt578.2.2.2.2.2.2.2.1 bt578.2.2.2.2.2.2.2.2.1 bt578.2.2.2.2.2.2.2.2.2.1 bt578.2.2.2.2.2.2.2.2.2.2)) else (none)) else (expr_Parser_prefix.j0 k false s0_0 bt578.2.2.2.2.2.2.1 bt578.2.2.2.2.2.2.2.1 bt578.2.2.2.2.2.2.2.2.1 bt578.2.2.2.2.2.2.2.2.2.1 bt578.2.2.2.2.2.2.2.2.2.2)))))))))) else (none)
def expr_Parser_chain.l0 : Nat → Int → Int → List (S143) → List (S136) → Int → Int → Int → Int → Int → Int → Int → Int → Int → ByteArray → Int → ByteArray → List (S31) → Option (Int × Int × Int × Int × ByteArray × Int × ByteArray × (List (S31)) × Int × Int × Int × Int × Int)
 | 0, _, _, _, _, _, _, _, _, _, _, _, _, _, _, _, _, _ => none
 | k + 1, x1, x2, x7, x1000, x1001, x1002, x1003, x1004, x1005, x661000, x661001, x661002, x661003, x661004, x661005, x661006, x661007 => if x1004 = 0 then (if 0 ≤ x2 then (if x2 < (x7.length : Int) then ((standin_IndexIs.f k ((rd_T143 x7 x2).f0) x1000 x1001 x1002 x1003 x1004 x1005).bind fun bt662 => (if bt662.1 < 0 then (some (x661000, x661001, x661002, x661003, x661004, x661005, x661006, x661007, bt662.2.1, bt662.2.2.1, bt662.2.2.2.1, bt662.2.2.2.2.1, bt662.2.2.2.2.2)) else (if 0 ≤ bt662.1 then (if bt662.1 < (((rd_T143 x7 x2).f1).length : Int) then ((expr_Parser_chain.f k x1000 (wrap64 (bt662.2.1 + 1)) bt662.2.2.1 bt662.2.2.2.1 bt662.2.2.2.2.1 bt662.2.2.2.2.2 x1 (wrap64 (x2 + 1))).bind fun bt670 => ((expr_Parser_make.f x1000 bt670.2.2.2.2.2.2.2.2.1 bt670.2.2.2.2.2.2.2.2.2.1 bt670.2.2.2.2.2.2.2.2.2.2.1 bt670.2.2.2.2.2.2.2.2.2.2.2.1 bt670.2.2.2.2.2.2.2.2.2.2.2.2 (rd ((rd_T143 x7 x2).f1) bt662.1) (([(⟨x661000, (⟨x661001, (⟨x661002, x661003⟩ : S23), x661004, x661005⟩ : S25), x661006, x661007⟩ : S31), (⟨bt670.1, (⟨bt670.2.1, (⟨bt670.2.2.1, bt670.2.2.2.1⟩ : S23), bt670.2.2.2.2.1, bt670.2.2.2.2.2.1⟩ : S25), bt670.2.2.2.2.2.2.1, bt670.2.2.2.2.2.2.2.1⟩ : S31)] : List (S31)))).bind fun bt688 => (if (rd_T143 x7 x2).f2 = true then (some (bt688.1, bt688.2.1, bt688.2.2.1, bt688.2.2.2.1, bt688.2.2.2.2.1, bt688.2.2.2.2.2.1, bt688.2.2.2.2.2.2.1, bt688.2.2.2.2.2.2.2.1, bt688.2.2.2.2.2.2.2.2.1, bt688.2.2.2.2.2.2.2.2.2.1, bt688.2.2.2.2.2.2.2.2.2.2.1, bt688.2.2.2.2.2.2.2.2.2.2.2.1, bt688.2.2.2.2.2.2.2.2.2.2.2.2)) else (expr_Parser_chain.l0 k x1 x2 x7 x1000 bt688.2.2.2.2.2.2.2.2.1 bt688.2.2.2.2.2.2.2.2.2.1 bt688.2.2.2.2.2.2.2.2.2.2.1 bt688.2.2.2.2.2.2.2.2.2.2.2.1 bt688.2.2.2.2.2.2.2.2.2.2.2.2 bt688.1 bt688.2.1 bt688.2.2.1 bt688.2.2.2.1 bt688.2.2.2.2.1 bt688.2.2.2.2.2.1 bt688.2.2.2.2.2.2.1 bt688.2.2.2.2.2.2.2.1)))) else (none)) else (none)))) else (none)) else (none)) else (none)
def expr_Parser_chain.f : Nat → List (S136) → Int → Int → Int → Int → Int → Int → Int → Option (Int × Int × Int × Int × ByteArray × Int × ByteArray × (List (S31)) × Int × Int × Int × Int × Int)
 | 0, _, _, _, _, _, _, _, _ => none
 | k + 1, s0_0, s0_1, s0_2, s0_3, s0_4, s0_5, a1, a2 => (expr_levels.f).bind fun t627 => (if a2 > 4 then ((expr_Parser_prefix.f k s0_0 s0_1 s0_2 s0_3 s0_4 s0_5 a1).bind fun bt630 => (some (bt630.1, bt630.2.1, bt630.2.2.1, bt630.2.2.2.1, bt630.2.2.2.2.1, bt630.2.2.2.2.2.1, bt630.2.2.2.2.2.2.1, bt630.2.2.2.2.2.2.2.1, bt630.2.2.2.2.2.2.2.2.1, bt630.2.2.2.2.2.2.2.2.2.1, bt630.2.2.2.2.2.2.2.2.2.2.1, bt630.2.2.2.2.2.2.2.2.2.2.2.1, bt630.2.2.2.2.2.2.2.2.2.2.2.2))) else ((expr_Parser_chain.f k s0_0 s0_1 s0_2 s0_3 s0_4 s0_5 a1 (wrap64 (a2 + 1))).bind fun bt645 => (expr_Parser_chain.l0 k a1 a2 t627 s0_0 bt645.2.2.2.2.2.2.2.2.1 bt645.2.2.2.2.2.2.2.2.2.1 bt645.2.2.2.2.2.2.2.2.2.2.1 bt645.2.2.2.2.2.2.2.2.2.2.2.1 bt645.2.2.2.2.2.2.2.2.2.2.2.2 bt645.1 bt645.2.1 bt645.2.2.1 bt645.2.2.2.1 bt645.2.2.2.2.1 bt645.2.2.2.2.2.1 bt645.2.2.2.2.2.2.1 bt645.2.2.2.2.2.2.2.1)))
def expr_Parser_Expr.j0 : Nat → Int → Bool → List (S136) → Int → Int → Int → Int → Int → Option (Int × Int × Int × Int × ByteArray × Int × ByteArray × (List (S31)) × Int × Int × Int × Int × Int)
 | 0, _, _, _, _, _, _, _, _ => none
 | k + 1, x1, x20, x1000, x1001, x1002, x1003, x1004, x1005 => if x20 = true then ((expr_Parser_chain.f k x1000 x1001 x1002 x1003 x1004 x1005 x1 0).bind fun bt711 => (some (bt711.1, bt711.2.1, bt711.2.2.1, bt711.2.2.2.1, bt711.2.2.2.2.1, bt711.2.2.2.2.2.1, bt711.2.2.2.2.2.2.1, bt711.2.2.2.2.2.2.2.1, bt711.2.2.2.2.2.2.2.2.1, bt711.2.2.2.2.2.2.2.2.2.1, bt711.2.2.2.2.2.2.2.2.2.2.1, bt711.2.2.2.2.2.2.2.2.2.2.2.1, bt711.2.2.2.2.2.2.2.2.2.2.2.2))) else ((expr_Parser_Expr.f k x1000 x1001 x1002 x1003 x1004 x1005 x1).bind fun bt726 => ((expr_Parser_Need.f k x1000 bt726.2.2.2.2.2.2.2.2.1 bt726.2.2.2.2.2.2.2.2.2.1 bt726.2.2.2.2.2.2.2.2.2.2.1 bt726.2.2.2.2.2.2.2.2.2.2.2.1 bt726.2.2.2.2.2.2.2.2.2.2.2.2 (⟨#[116, 104, 101, 110]⟩ : ByteArray)).bind fun bt742 => ((expr_Parser_Expr.f k x1000 bt742.1 bt742.2.1 bt742.2.2.1 bt742.2.2.2.1 bt742.2.2.2.2 x1).bind fun bt747 => ((expr_Parser_Need.f k x1000 bt747.2.2.2.2.2.2.2.2.1 bt747.2.2.2.2.2.2.2.2.2.1 bt747.2.2.2.2.2.2.2.2.2.2.1 bt747.2.2.2.2.2.2.2.2.2.2.2.1 bt747.2.2.2.2.2.2.2.2.2.2.2.2 (⟨#[101, 108, 115, 101]⟩ : ByteArray)).bind fun bt763 => ((expr_Parser_Expr.f k x1000 bt763.1 bt763.2.1 bt763.2.2.1 bt763.2.2.2.1 bt763.2.2.2.2 x1).bind fun bt768 => ((expr_Parser_make.f x1000 bt768.2.2.2.2.2.2.2.2.1 bt768.2.2.2.2.2.2.2.2.2.1 bt768.2.2.2.2.2.2.2.2.2.2.1 bt768.2.2.2.2.2.2.2.2.2.2.2.1 bt768.2.2.2.2.2.2.2.2.2.2.2.2 17 (([(⟨bt726.1, (⟨bt726.2.1, (⟨bt726.2.2.1, bt726.2.2.2.1⟩ : S23), bt726.2.2.2.2.1, bt726.2.2.2.2.2.1⟩ : S25), bt726.2.2.2.2.2.2.1, bt726.2.2.2.2.2.2.2.1⟩ : S31), (⟨bt747.1, (⟨bt747.2.1, (⟨bt747.2.2.1, bt747.2.2.2.1⟩ : S23), bt747.2.2.2.2.1, bt747.2.2.2.2.2.1⟩ : S25), bt747.2.2.2.2.2.2.1, bt747.2.2.2.2.2.2.2.1⟩ : S31), (⟨bt768.1, (⟨bt768.2.1, (⟨bt768.2.2.1, bt768.2.2.2.1⟩ : S23), bt768.2.2.2.2.1, bt768.2.2.2.2.2.1⟩ : S25), bt768.2.2.2.2.2.2.1, bt768.2.2.2.2.2.2.2.1⟩ : S31)] : List (S31)))).bind fun bt786 => (some (bt786.1, bt786.2.1, bt786.2.2.1, bt786.2.2.2.1, bt786.2.2.2.2.1, bt786.2.2.2.2.2.1, bt786.2.2.2.2.2.2.1, bt786.2.2.2.2.2.2.2.1, bt786.2.2.2.2.2.2.2.2.1, bt786.2.2.2.2.2.2.2.2.2.1, bt786.2.2.2.2.2.2.2.2.2.2.1, bt786.2.2.2.2.2.2.2.2.2.2.2.1, bt786.2.2.2.2.2.2.2.2.2.2.2.2))))))))
def expr_Parser_Expr.f : Nat → List (S136) → Int → Int → Int → Int → Int → Int → Option (Int × Int × Int × Int × ByteArray × Int × ByteArray × (List (S31)) × Int × Int × Int × Int × Int)
 | 0, _, _, _, _, _, _, _ => none
 | k + 1, s0_0, s0_1, s0_2, s0_3, s0_4, s0_5, a1 => if a1 > 64 then (none) else (if s0_4 = 0 then ((expr_Parser_Take.f k s0_0 s0_1 s0_2 s0_3 s0_4 s0_5 (⟨#[105, 102]⟩ : ByteArray)).bind fun bt705 => (expr_Parser_Expr.j0 k a1 (!bt705.1) s0_0 bt705.2.1 bt705.2.2.1 bt705.2.2.2.1 bt705.2.2.2.2.1 bt705.2.2.2.2.2)) else (expr_Parser_Expr.j0 k a1 true s0_0 s0_1 s0_2 s0_3 s0_4 s0_5))
end
theorem expr_Parser_Expr.mono_g : ∀ k, (∀ y0 y1 y2 y3 y4 y5 y6, LeO (expr_Parser_prefix.f k y0 y1 y2 y3 y4 y5 y6) (expr_Parser_prefix.f (k + 1) y0 y1 y2 y3 y4 y5 y6)) ∧ (∀ y0 y1 y2 y3 y4 y5 y6, LeO (expr_Parser_prefix.j0 k y0 y1 y2 y3 y4 y5 y6) (expr_Parser_prefix.j0 (k + 1) y0 y1 y2 y3 y4 y5 y6)) ∧ (∀ y0 y1 y2 y3 y4 y5 y6 y7, LeO (expr_Parser_chain.f k y0 y1 y2 y3 y4 y5 y6 y7) (expr_Parser_chain.f (k + 1) y0 y1 y2 y3 y4 y5 y6 y7)) ∧ (∀ y0 y1 y2 y3 y4 y5 y6 y7 y8 y9 y10 y11 y12 y13 y14 y15 y16, LeO (expr_Parser_chain.l0 k y0 y1 y2 y3 y4 y5 y6 y7 y8 y9 y10 y11 y12 y13 y14 y15 y16) (expr_Parser_chain.l0 (k + 1) y0 y1 y2 y3 y4 y5 y6 y7 y8 y9 y10 y11 y12 y13 y14 y15 y16)) ∧ (∀ y0 y1 y2 y3 y4 y5 y6, LeO (expr_Parser_Expr.f k y0 y1 y2 y3 y4 y5 y6) (expr_Parser_Expr.f (k + 1) y0 y1 y2 y3 y4 y5 y6)) ∧ (∀ y0 y1 y2 y3 y4 y5 y6 y7, LeO (expr_Parser_Expr.j0 k y0 y1 y2 y3 y4 y5 y6 y7) (expr_Parser_Expr.j0 (k + 1) y0 y1 y2 y3 y4 y5 y6 y7))
 | 0 => ⟨fun _ _ _ _ _ _ _ r h => by simp [expr_Parser_prefix.f] at h, fun _ _ _ _ _ _ _ r h => by simp [expr_Parser_prefix.j0] at h, fun _ _ _ _ _ _ _ _ r h => by simp [expr_Parser_chain.f] at h, fun _ _ _ _ _ _ _ _ _ _ _ _ _ _ _ _ _ r h => by simp [expr_Parser_chain.l0] at h, fun _ _ _ _ _ _ _ r h => by simp [expr_Parser_Expr.f] at h, fun _ _ _ _ _ _ _ _ r h => by simp [expr_Parser_Expr.j0] at h⟩
 | k + 1 => by
  obtain ⟨ih0, ih1, ih2, ih3, ih4, ih5⟩ := expr_Parser_Expr.mono_g k
  refine ⟨?_, ?_, ?_, ?_, ?_, ?_⟩
  ·intro y0 y1 y2 y3 y4 y5 y6
   unfold expr_Parser_prefix.f
   have q0 := @expr_Parser_Need.mono; have q1 := @expr_Parser_Take.mono; have q2 := @expr_Parser_Value.mono; have q3 := @lex_Word.mono; have q4 := @standin_IndexIs.mono; exact lmo
  ·intro y0 y1 y2 y3 y4 y5 y6
   unfold expr_Parser_prefix.j0
   have q0 := @expr_Parser_Need.mono; have q1 := @expr_Parser_Take.mono; have q2 := @expr_Parser_Value.mono; have q3 := @lex_Word.mono; have q4 := @standin_IndexIs.mono; exact lmo
  ·intro y0 y1 y2 y3 y4 y5 y6 y7
   unfold expr_Parser_chain.f
   have q0 := @expr_Parser_Need.mono; have q1 := @expr_Parser_Take.mono; have q2 := @expr_Parser_Value.mono; have q3 := @lex_Word.mono; have q4 := @standin_IndexIs.mono; exact lmo
  ·intro y0 y1 y2 y3 y4 y5 y6 y7 y8 y9 y10 y11 y12 y13 y14 y15 y16
   unfold expr_Parser_chain.l0
   have q0 := @expr_Parser_Need.mono; have q1 := @expr_Parser_Take.mono; have q2 := @expr_Parser_Value.mono; have q3 := @lex_Word.mono; have q4 := @standin_IndexIs.mono; exact lmo
  ·intro y0 y1 y2 y3 y4 y5 y6
   unfold expr_Parser_Expr.f
   have q0 := @expr_Parser_Need.mono; have q1 := @expr_Parser_Take.mono; have q2 := @expr_Parser_Value.mono; have q3 := @lex_Word.mono; have q4 := @standin_IndexIs.mono; exact lmo
  intro y0 y1 y2 y3 y4 y5 y6 y7
  unfold expr_Parser_Expr.j0
  have q0 := @expr_Parser_Need.mono; have q1 := @expr_Parser_Take.mono; have q2 := @expr_Parser_Value.mono; have q3 := @lex_Word.mono; have q4 := @standin_IndexIs.mono; exact lmo
theorem expr_Parser_Expr.mono : ∀ a0 a1 a2 a3 a4 a5 a6 k, LeO (expr_Parser_Expr.f k a0 a1 a2 a3 a4 a5 a6) (expr_Parser_Expr.f (k + 1) a0 a1 a2 a3 a4 a5 a6) := by
 intro a0 a1 a2 a3 a4 a5 a6 k
 obtain ⟨ih0, ih1, ih2, ih3, ih4, ih5⟩ := expr_Parser_Expr.mono_g k
 exact ih4 a0 a1 a2 a3 a4 a5 a6
end Go.Proofs.YtgkemhgihbfmmaaGreatDoor.PA
end
section
namespace Go.Proofs.YtgkemhgihbfmmaaGreatDoor.PA
open Go.RowKit Go.Proofs.YtgkemhgihbfmmaaGreatDoorW.PrintWords Go.Proofs.YtgkemhgihbfmmaaGreatDoorW.PrintLast Go.Proofs.YtgkemhgihbfmmaaGreatDoorW.PrintMore
attribute [local go_sem] max2_int min2_int max_two min_two max_three min_three max_four min_four isSome_set str_gtr
set_option linter.unusedVariables false
set_option linter.unusedSimpArgs false
def expr_Parser_prefix.T19 : Bool × List (List Nat × List Nat) := (true, [([], []), ([0], [0]), ([1], [1]), ([2], [2]), ([], []), ([4], [4]), ([5], [5]), ([6], [6]), ([7], [7]), ([3, 8], [3, 8]), ([9], [9]), ([10], [10]), ([11, 10], [10, 11]), ([12, 10], [10, 12]), ([13, 10], [10, 13]), ([10], [10]), ([15, 10], [10, 15]), ([16, 10], [10, 16]), ([17, 10], [10, 17]), ([14, 18, 10], [10, 14, 18]), ([19, 10], [10, 19]), ([20, 10], [10, 20]), ([21, 10], [10, 21]), ([10, 22], [10, 22]), ([23, 10], [23]), ([24], [24]), ([25, 24], [24, 25]), ([26, 24], [24, 26]), ([27, 24], [24, 27]), ([24], [24]), ([29, 24], [24, 29]), ([30, 24], [24, 30]), ([31, 24], [24, 31]), ([28, 32, 24], [24, 28, 32]), ([33, 24], [24, 33]), ([34, 24], [24, 34]), ([35, 24, 24], [24, 35]), ([24, 36], [24, 36])])
def expr_Parser_prefix.B19 : List Nat := [0, 1, 3, 7, 0, 16, 48, 112, 240, 511, 1023, 2047, 4095, 8191, 16383, 2047, 34815, 100351, 231423, 524287, 1048575, 2097151, 4194303, 8388607, 16777215, 33554431, 67108863, 134217727, 268435455, 33554431, 570425343, 1644167167, 3791650815, 8589934591, 17179869183, 34359738367, 68719476735, 137438953471]
theorem expr_Parser_prefix.tab19 : rtab .any (opsOf Tryz.f109 19) = expr_Parser_prefix.T19 := by kernel_rfl
theorem expr_Parser_prefix.bits19 : waitsOk expr_Parser_prefix.T19.2 expr_Parser_prefix.B19 = true := by kernel_rfl
def expr_Parser_prefix.T21 : Bool × List (List Nat × List Nat) := (true, [([], []), ([0], [0]), ([1], [1]), ([2], [2]), ([], []), ([4], [4]), ([5], [5]), ([6], [6]), ([3, 7], [3, 7]), ([8], [8]), ([9], [9]), ([0, 1, 2, 3, 4, 5, 6, 7, 8, 9, 10], []), ([11, 10, 0, 1, 2, 3, 4, 5, 6, 7, 8, 9, 10], [10, 11])])
def expr_Parser_prefix.B21 : List Nat := [0, 1, 3, 7, 0, 16, 48, 112, 255, 511, 1023, 2047, 4095]
theorem expr_Parser_prefix.tab21 : rtab .any (opsOf Tryz.f109 21) = expr_Parser_prefix.T21 := by kernel_rfl
theorem expr_Parser_prefix.bits21 : waitsOk expr_Parser_prefix.T21.2 expr_Parser_prefix.B21 = true := by kernel_rfl
set_option maxHeartbeats 8000000 in
set_option maxRecDepth 100000 in
theorem expr_Parser_prefix.step (k : Nat) (ih_expr_Parser_prefix : ∀ k', k' < k → ∀ (g : Nat) (s0_0 : List (S136)) (s0_1 s0_2 s0_3 s0_4 s0_5 a1 r1 r2 r3 r4 : Int) (r5 : ByteArray) (r6 : Int) (r7 : ByteArray) (r8 : List (S31)) (r9 r10 r11 r12 r13 : Int) (w0 w : World) (hI : IsS63 w0 w g s0_0 s0_1 s0_2 s0_3 s0_4 s0_5) (hB : Below w0.heap.size w0 w) (h : expr_Parser_prefix.f k' s0_0 s0_1 s0_2 s0_3 s0_4 s0_5 a1 = some (r1, r2, r3, r4, r5, r6, r7, r8, r9, r10, r11, r12, r13)),
  Calls Tryz.prog 109 #[.pointer (some ⟨g, 0, none⟩), .int .i64 a1] w fun e w' => ∃ v7_ : Value, e = .returned (.agg #[.int .i64 r1, .int .i64 r2, .int .i64 r3, .int .i64 r4, .string r5, .int .i64 r6, .string r7, v7_]) ∧ Kd.V k31 31 w' w.heap.size (fun k_ => (w.heap.size ≤ k_)) v7_ r8 ∧ IsS63 w0 w' g s0_0 r9 r10 r11 r12 r13 ∧ Below w0.heap.size w0 w' ∧ KeepBut w w' g none) (ih_expr_Parser_chain : ∀ k', k' < k → ∀ (g : Nat) (s0_0 : List (S136)) (s0_1 s0_2 s0_3 s0_4 s0_5 a1 a2 r1 r2 r3 r4 : Int) (r5 : ByteArray) (r6 : Int) (r7 : ByteArray) (r8 : List (S31)) (r9 r10 r11 r12 r13 : Int) (w0 w : World) (hI : IsS63 w0 w g s0_0 s0_1 s0_2 s0_3 s0_4 s0_5) (hB : Below w0.heap.size w0 w) (h : expr_Parser_chain.f k' s0_0 s0_1 s0_2 s0_3 s0_4 s0_5 a1 a2 = some (r1, r2, r3, r4, r5, r6, r7, r8, r9, r10, r11, r12, r13)),
  Calls Tryz.prog 64 #[.pointer (some ⟨g, 0, none⟩), .int .i64 a1, .int .i64 a2] w fun e w' => ∃ v7_ : Value, e = .returned (.agg #[.int .i64 r1, .int .i64 r2, .int .i64 r3, .int .i64 r4, .string r5, .int .i64 r6, .string r7, v7_]) ∧ Kd.V k31 31 w' w.heap.size (fun k_ => (w.heap.size ≤ k_)) v7_ r8 ∧ IsS63 w0 w' g s0_0 r9 r10 r11 r12 r13 ∧ Below w0.heap.size w0 w' ∧ KeepBut w w' g none) (ih_expr_Parser_Expr : ∀ k', k' < k → ∀ (g : Nat) (s0_0 : List (S136)) (s0_1 s0_2 s0_3 s0_4 s0_5 a1 r1 r2 r3 r4 : Int) (r5 : ByteArray) (r6 : Int) (r7 : ByteArray) (r8 : List (S31)) (r9 r10 r11 r12 r13 : Int) (w0 w : World) (hI : IsS63 w0 w g s0_0 s0_1 s0_2 s0_3 s0_4 s0_5) (hB : Below w0.heap.size w0 w) (h : expr_Parser_Expr.f k' s0_0 s0_1 s0_2 s0_3 s0_4 s0_5 a1 = some (r1, r2, r3, r4, r5, r6, r7, r8, r9, r10, r11, r12, r13)),
  Calls Tryz.prog 31 #[.pointer (some ⟨g, 0, none⟩), .int .i64 a1] w fun e w' => ∃ v7_ : Value, e = .returned (.agg #[.int .i64 r1, .int .i64 r2, .int .i64 r3, .int .i64 r4, .string r5, .int .i64 r6, .string r7, v7_]) ∧ Kd.V k31 31 w' w.heap.size (fun k_ => (w.heap.size ≤ k_)) v7_ r8 ∧ IsS63 w0 w' g s0_0 r9 r10 r11 r12 r13 ∧ Below w0.heap.size w0 w' ∧ KeepBut w w' g none) : ∀ (g : Nat) (s0_0 : List (S136)) (s0_1 s0_2 s0_3 s0_4 s0_5 a1 r1 r2 r3 r4 : Int) (r5 : ByteArray) (r6 : Int) (r7 : ByteArray) (r8 : List (S31)) (r9 r10 r11 r12 r13 : Int) (w0 w : World) (hI : IsS63 w0 w g s0_0 s0_1 s0_2 s0_3 s0_4 s0_5) (hB : Below w0.heap.size w0 w) (h : expr_Parser_prefix.f k s0_0 s0_1 s0_2 s0_3 s0_4 s0_5 a1 = some (r1, r2, r3, r4, r5, r6, r7, r8, r9, r10, r11, r12, r13)),
  Calls Tryz.prog 109 #[.pointer (some ⟨g, 0, none⟩), .int .i64 a1] w fun e w' => ∃ v7_ : Value, e = .returned (.agg #[.int .i64 r1, .int .i64 r2, .int .i64 r3, .int .i64 r4, .string r5, .int .i64 r6, .string r7, v7_]) ∧ Kd.V k31 31 w' w.heap.size (fun k_ => (w.heap.size ≤ k_)) v7_ r8 ∧ IsS63 w0 w' g s0_0 r9 r10 r11 r12 r13 ∧ Below w0.heap.size w0 w' ∧ KeepBut w w' g none := by
 intro g s0_0 s0_1 s0_2 s0_3 s0_4 s0_5 a1 r1 r2 r3 r4 r5 r6 r7 r8 r9 r10 r11 r12 r13 w0 w hI hB h
 cases k with
 | zero => exact absurd h (by simp [expr_Parser_prefix.f])
 | succ k =>
 simp only [expr_Parser_prefix.f] at h
 have hu31 := Tryz.underlying31
 have hu25 := Tryz.underlying25
 have HI0 := am hI
 have HK := am (KeepBut.refl w g none)
 have HL := am hB.size
 clear hI
 have HW0 := am hB.size
 have HB := am hB
 clear hB
 have H : (if s0_4 = 0 then ((expr_Parser_Take.f k s0_0 s0_1 s0_2 s0_3 s0_4 s0_5 (⟨#[45]⟩ : ByteArray)).bind fun bt560 => (if bt560.1 = true then (none) else ((expr_Parser_Take.f k s0_0 bt560.2.1 bt560.2.2.1 bt560.2.2.2.1 bt560.2.2.2.2.1 bt560.2.2.2.2.2 (⟨#[40]⟩ : ByteArray)).bind fun bt566 => (if bt566.1 = true then (none) else ((expr_Parser_Take.f k s0_0 bt566.2.1 bt566.2.2.1 bt566.2.2.2.1 bt566.2.2.2.2.1 bt566.2.2.2.2.2 (⟨#[110, 111, 116]⟩ : ByteArray)).bind fun bt572 => (if bt572.1 = true then (none) else ((expr_Parser_Value.f k s0_0 bt572.2.1 bt572.2.2.1 bt572.2.2.2.1 bt572.2.2.2.2.1 bt572.2.2.2.2.2).bind fun bt578 => (if bt578.2.2.2.2.2.1 = true then ((expr_Parser_make.f s0_0 bt578.2.2.2.2.2.2.1 bt578.2.2.2.2.2.2.2.1 bt578.2.2.2.2.2.2.2.2.1 bt578.2.2.2.2.2.2.2.2.2.1 bt578.2.2.2.2.2.2.2.2.2.2 1 ([] : List (S31))).bind fun bt590 => (some (bt590.1, bt578.1, bt578.2.1, bt578.2.2.1, bt578.2.2.2.1, bt578.2.2.2.2.1, bt590.2.2.2.2.2.2.1, bt590.2.2.2.2.2.2.2.1, bt590.2.2.2.2.2.2.2.2.1, bt590.2.2.2.2.2.2.2.2.2.1, bt590.2.2.2.2.2.2.2.2.2.2.1, bt590.2.2.2.2.2.2.2.2.2.2.2.1, bt590.2.2.2.2.2.2.2.2.2.2.2.2))) else (if bt578.2.2.2.2.2.2.1 < (s0_0.length : Int) then (if 0 ≤ bt578.2.2.2.2.2.2.1 then (if ((rd_T136 s0_0 bt578.2.2.2.2.2.2.1).f0) = 4 then ((lex_Word.f k ((rd_T136 s0_0 bt578.2.2.2.2.2.2.1).f2)).bind fun t608 => (expr_Parser_prefix.j0 k t608 s0_0 bt578.2.2.2.2.2.2.1 bt578.2.2.2.2.2.2.2.1 bt578.2.2.2.2.2.2.2.2.1 bt578.2.2.2.2.2.2.2.2.2.1 bt578.2.2.2.2.2.2.2.2.2.2)) else (expr_Parser_prefix.j0 k false s0_0 bt578.2.2.2.2.2.2.1 bt578.2.2.2.2.2.2.2.1 bt578.2.2.2.2.2.2.2.2.1 bt578.2.2.2.2.2.2.2.2.2.1 bt578.2.2.2.2.2.2.2.2.2.2)) else (none)) else (expr_Parser_prefix.j0 k false s0_0 bt578.2.2.2.2.2.2.1 bt578.2.2.2.2.2.2.2.1 bt578.2.2.2.2.2.2.2.2.1 bt578.2.2.2.2.2.2.2.2.2.1 bt578.2.2.2.2.2.2.2.2.2.2)))))))))) else (none)) = some (r1, r2, r3, r4, r5, r6, r7, r8, r9, r10, r11, r12, r13) := h
 clear h
 by_cases c3 : s0_4 = 0
 ·replace H := ipe c3 H
  obtain ⟨H, c3b0, c3b1⟩ := H
  clear c3
  replace H := obe6 H
  obtain ⟨t560, t561, t562, t563, t564, t565, A4, H⟩ := H
  by_cases c5 : t560 = true
  ·subst c5
   replace H := ift H
   exact absurd H (by simp)
  replace c5 := Bool.eq_false_iff.mpr c5
  subst c5
  replace H := iff_ H
  replace H := obe6 H
  obtain ⟨t566, t567, t568, t569, t570, t571, A6, H⟩ := H
  by_cases c7 : t566 = true
  ·subst c7
   replace H := ift H
   exact absurd H (by simp)
  replace c7 := Bool.eq_false_iff.mpr c7
  subst c7
  replace H := iff_ H
  replace H := obe6 H
  obtain ⟨t572, t573, t574, t575, t576, t577, A8, H⟩ := H
  by_cases c9 : t572 = true
  ·subst c9
   replace H := ift H
   exact absurd H (by simp)
  replace c9 := Bool.eq_false_iff.mpr c9
  subst c9
  replace H := iff_ H
  replace H := obe11 H
  obtain ⟨t578, t579, t580, t581, t582, t583, t584, t585, t586, t587, t588, A10, H⟩ := H
  have HC11 := am H
  clear H
  go_enter Tryz.func109, Tryz.ntmps109
  go_upto_if 56 with (first | ((with_reducible refine gate_dst (N := 4) rfl ?_); refine bev (#[.int .i64 0, .int .i64 0, .int .i64 0, .int .i64 0, .string (⟨#[]⟩ : ByteArray), .int .i64 0, .string (⟨#[]⟩ : ByteArray), .slice none 0 0]) 31 ?_; intro gb559 hg w12 hbox hb; replace HB := sb HB hb; have BK559 := am (hbox); have GW559 := gk hg HK; have GE559 := am (Nat.le_trans HW0.out GW559.out); replace HK := am (KeepBut.trans (kz HK.out) (KeepBut.of_below hb g none) (.inl rfl)); have NB0_559 := am ((nlt (a := g) hg (IsS63.lt (show IsS63 w0 _ g s0_0 s0_1 s0_2 s0_3 s0_4 s0_5 from hz HI0.out)))); have NB559_0 := am ((ngt (a := g) hg (IsS63.lt (show IsS63 w0 _ g s0_0 s0_1 s0_2 s0_3 s0_4 s0_5 from hz HI0.out)))); replace HI0 := am (IsS63.below (hz HI0.out) hb); clear hb hbox hg; obtain ⟨ASz13_0, cSz13_0, HSz13_0, Z13_0, Z13_1, Z13_2, Z13_3, Z13_4, Z13_5, F13_1, F13_2, F13_3, F13_4, F13_5⟩ := open63 HI0.out) | ((with_reducible refine gate_callee (f := 63) rfl ?_); refine gl_ (some 19) Tryz.func63 (by kernel_rfl) #[.pointer (some ⟨g, 0, none⟩), .string (⟨#[45]⟩ : ByteArray)] rfl ?_; (with_reducible refine (expr_Parser_Take.calls k g s0_0 s0_1 s0_2 s0_3 s0_4 s0_5 (⟨#[45]⟩ : ByteArray) false t561 t562 t563 t564 t565 w0 _ ?side1 ?side2 A4.out).mono ?_); (case side1 => exact hz HI0.out); (case side2 => exact bz HB.out); rintro e w14 ⟨rfl, hi, hb, hk⟩; refine ⟨_, rfl, ?_⟩; replace BK559 := am (KeepBut.blk hk (bk BK559.out) NB559_0.out (by simp)); replace HK := am (KeepBut.trans (kz HK.out) hk (.inl rfl)); replace HB := am (hb); replace HI0 := am (hi); clear hb hk hi) | ((with_reducible refine gate_callee (f := 63) rfl ?_); refine gl_ (some 28) Tryz.func63 (by kernel_rfl) #[.pointer (some ⟨g, 0, none⟩), .string (⟨#[40]⟩ : ByteArray)] rfl ?_; (with_reducible refine (expr_Parser_Take.calls k g s0_0 t561 t562 t563 t564 t565 (⟨#[40]⟩ : ByteArray) false t567 t568 t569 t570 t571 w0 _ ?side1 ?side2 A6.out).mono ?_); (case side1 => exact hz HI0.out); (case side2 => exact bz HB.out); rintro e w15 ⟨rfl, hi, hb, hk⟩; refine ⟨_, rfl, ?_⟩; replace BK559 := am (KeepBut.blk hk (bk BK559.out) NB559_0.out (by simp)); replace HK := am (KeepBut.trans (kz HK.out) hk (.inl rfl)); replace HB := am (hb); replace HI0 := am (hi); clear hb hk hi) | ((with_reducible refine gate_callee (f := 63) rfl ?_); refine gl_ (some 38) Tryz.func63 (by kernel_rfl) #[.pointer (some ⟨g, 0, none⟩), .string (⟨#[110, 111, 116]⟩ : ByteArray)] rfl ?_; (with_reducible refine (expr_Parser_Take.calls k g s0_0 t567 t568 t569 t570 t571 (⟨#[110, 111, 116]⟩ : ByteArray) false t573 t574 t575 t576 t577 w0 _ ?side1 ?side2 A8.out).mono ?_); (case side1 => exact hz HI0.out); (case side2 => exact bz HB.out); rintro e w16 ⟨rfl, hi, hb, hk⟩; refine ⟨_, rfl, ?_⟩; replace BK559 := am (KeepBut.blk hk (bk BK559.out) NB559_0.out (by simp)); replace HK := am (KeepBut.trans (kz HK.out) hk (.inl rfl)); replace HB := am (hb); replace HI0 := am (hi); clear hb hk hi) | ((with_reducible refine gate_callee (f := 150) rfl ?_); refine gl_ (some 53) Tryz.func150 (by kernel_rfl) #[.pointer (some ⟨g, 0, none⟩)] rfl ?_; (with_reducible refine (expr_Parser_Value.calls k g s0_0 t573 t574 t575 t576 t577 t578 t579 t580 t581 t582 t583 t584 t585 t586 t587 t588 w0 _ ?side1 ?side2 A10.out).mono ?_); (case side1 => exact hz HI0.out); (case side2 => exact bz HB.out); rintro e w17 ⟨rfl, hi, hb, hk⟩; refine ⟨_, rfl, ?_⟩; replace BK559 := am (KeepBut.blk hk (bk BK559.out) NB559_0.out (by simp)); replace HK := am (KeepBut.trans (kz HK.out) hk (.inl rfl)); replace HB := am (hb); replace HI0 := am (hi); clear hb hk hi) | ((with_reducible refine gate_dst (N := 7) rfl ?_); refine bev (#[.int .i64 0, .int .i64 0, .int .i64 0, .string (⟨#[]⟩ : ByteArray), .int .i64 0]) 25 ?_; intro gb589 hg w18 hbox hb; replace HB := sb HB hb; have BK589 := am (hbox); have GW589 := gk hg HK; have GE589 := am (Nat.le_trans HW0.out GW589.out); replace HK := am (KeepBut.trans (kz HK.out) (KeepBut.of_below hb g none) (.inl rfl)); have NB559_589 := na hg BK559; have NB589_559 := nb hg BK559; replace BK559 := kb BK559 hb; have NB0_589 := am ((nlt (a := g) hg (IsS63.lt (show IsS63 w0 _ g s0_0 t584 t585 t586 t587 t588 from hz HI0.out)))); have NB589_0 := am ((ngt (a := g) hg (IsS63.lt (show IsS63 w0 _ g s0_0 t584 t585 t586 t587 t588 from hz HI0.out)))); replace HI0 := am (IsS63.below (hz HI0.out) hb); clear hb hbox hg; have hnb19 := NB589_559.out; have hnc19 := NB559_589.out; have hnb20 := NB589_0.out; have hnc20 := NB0_589.out; obtain ⟨Z21_0, Z21_1, Z21_2, Z21_3, Z21_4, F21_0, F21_1, F21_2, F21_3, F21_4⟩ := cz5 BK589.out))
  (try simp only [Act.put, List.setIfInBounds_toArray, List.set_cons_zero, List.set_cons_succ])
  have H := HC11.out
  clear HC11
  clear Z13_0 Z13_1 Z13_2 Z13_3 Z13_4 Z13_5 F13_1 F13_2 F13_3 F13_4 F13_5 Z21_0 Z21_1 Z21_2 Z21_3 Z21_4 F21_0 F21_1 F21_2 F21_3 F21_4
  by_cases c22 : t583 = true
  ·subst c22
   replace H := ift H
   replace H := obe13 H
   obtain ⟨t590, t591, t592, t593, t594, t595, t596, t597, t600, t601, t602, t603, t604, A23, H⟩ := H
   simp only [Option.some.injEq, Prod.mk.injEq] at H
   obtain ⟨rfl, rfl, rfl, rfl, rfl, rfl, rfl, rfl, rfl, rfl, rfl, rfl, rfl⟩ := H
   go_wp2_with (first | ((with_reducible refine gate_callee (f := 66) rfl ?_); refine gl_ (some 58) Tryz.func66 (by kernel_rfl) #[.pointer (some ⟨g, 0, none⟩), .int .i64 1, .slice none 0 0] rfl ?_; (refine (expr_Parser_make.calls g s0_0 t584 t585 t586 t587 t588 1 (fun k_ => False) _ _ ([] : List (S31)) t590 t591 t592 t593 t594 t595 t596 t597 t600 t601 t602 t603 t604 w0 _ ?side1 ?side2 ?side3 A23.out).mono ?_); (case side1 => exact hz HI0.out); (case side2 => exact bz HB.out); (case side3 => exact Kd.V_nil _ _ _ _ _); rintro e w24 ⟨v598, rfl, ho0, hi, hb, hk⟩; refine ⟨_, rfl, ?_⟩; have HO599 := am (Kd.V_lower (Kd.V_mono (ok' := fun k_ => (w.heap.size ≤ k_) ∧ k_ ≠ gb559 ∧ k_ ≠ gb589 ∧ k_ ≠ g) ho0 (fun k_ hk_ => ⟨Or.elim hk_ (fun hs_ => (hs_).elim) (fun hn_ => (Nat.le_trans (keep_size (w := w) (g := g) (row := none) (kz HK.out)) hn_)), Or.elim hk_ (fun hs_ => (hs_).elim) (fun hn_ => (Kd.freshB (g := gb559) (o := .cells #[.int .i64 0, .int .i64 0, .int .i64 0, .int .i64 0, .string (⟨#[]⟩ : ByteArray), .int .i64 0, .string (⟨#[]⟩ : ByteArray), .slice none 0 0] 31 (0, 0)) (bp BK559.out) k_ hn_)), Or.elim hk_ (fun hs_ => (hs_).elim) (fun hn_ => (Kd.freshB (g := gb589) (o := .cells #[.int .i64 t578, .int .i64 t579, .int .i64 t580, .string t581, .int .i64 t582] 25 (0, 0)) (bp BK589.out) k_ hn_)), Or.elim hk_ (fun hs_ => (hs_).elim) (fun hn_ => (IsS63.fresh (hz HI0.out) k_ hn_))⟩)) (keep_size (w := w) (g := g) (row := none) (kz HK.out))); replace BK559 := am (KeepBut.blk hk (g' := gb559) (o := .cells #[.int .i64 0, .int .i64 0, .int .i64 0, .int .i64 0, .string (⟨#[]⟩ : ByteArray), .int .i64 0, .string (⟨#[]⟩ : ByteArray), .slice none 0 0] 31 (0, 0)) (bp BK559.out) NB559_0.out (by simp)); replace BK589 := am (KeepBut.blk hk (g' := gb589) (o := .cells #[.int .i64 t578, .int .i64 t579, .int .i64 t580, .string t581, .int .i64 t582] 25 (0, 0)) (bp BK589.out) NB589_0.out (by simp)); replace HK := am (KeepBut.trans (kz HK.out) hk (.inl rfl)); replace HB := am (hb); replace HI0 := am (hi); clear hb hk hi ho0) | ((with_reducible refine gate_dst (N := 9) rfl ?_); refine bev (#[.int .i64 0, .int .i64 0, .int .i64 0, .int .i64 0, .string (⟨#[]⟩ : ByteArray), .int .i64 0, .string (⟨#[]⟩ : ByteArray), .slice none 0 0]) 31 ?_; intro gb605 hg w25 hbox hb; replace HO599 := am (Kd.V_below (Kd.V_elderB (vv HO599.out) gb605 (Nat.le_of_eq hg.symm)) hb); replace HB := sb HB hb; have BK605 := am (hbox); have GW605 := gk hg HK; have GE605 := am (Nat.le_trans HW0.out GW605.out); replace HK := am (KeepBut.trans (kz HK.out) (KeepBut.of_below hb g none) (.inl rfl)); have NB559_605 := na hg BK559; have NB605_559 := nb hg BK559; replace BK559 := kb BK559 hb; have NB589_605 := na hg BK589; have NB605_589 := nb hg BK589; replace BK589 := kb BK589 hb; have NB0_605 := am ((nlt (a := g) hg (IsS63.lt (show IsS63 w0 _ g s0_0 t600 t601 t602 t603 t604 from hz HI0.out)))); have NB605_0 := am ((ngt (a := g) hg (IsS63.lt (show IsS63 w0 _ g s0_0 t600 t601 t602 t603 t604 from hz HI0.out)))); replace HI0 := am (IsS63.below (hz HI0.out) hb); clear hb hbox hg; have hnb26 := NB605_559.out; have hnc26 := NB559_605.out; have hnb27 := NB605_589.out; have hnc27 := NB589_605.out; have hnb28 := NB605_0.out; have hnc28 := NB0_605.out; obtain ⟨Z29_0, Z29_1, Z29_2, Z29_3, Z29_4, Z29_5, Z29_6, Z29_7, F29_0, F29_1, F29_2, F29_3, F29_4, F29_5, F29_6, F29_7⟩ := cz8 BK605.out; obtain ⟨Ao30, co30, eo30⟩ := Kd.V_slice HO599.out; subst eo30; have hnb31 := NB589_559.out; have hnc31 := NB559_589.out; have hnb32 := NB589_0.out; have hnc32 := NB0_589.out; obtain ⟨Z33_0, Z33_1, Z33_2, Z33_3, Z33_4, F33_0, F33_1, F33_2, F33_3, F33_4⟩ := cz5 BK589.out; have hnb34 := NB559_0.out; have hnc34 := NB0_559.out; obtain ⟨Z35_0, Z35_1, Z35_2, Z35_3, Z35_4, Z35_5, Z35_6, Z35_7, F35_0, F35_1, F35_2, F35_3, F35_4, F35_5, F35_6, F35_7⟩ := cz8 BK559.out))
   refine bodyPost_ret (results_cell_row rfl _ _ gb559 31 #[.int .i64 t590, .int .i64 t578, .int .i64 t579, .int .i64 t580, .string t581, .int .i64 t582, .string t596, .slice Ao30 t597.length co30] (0, 0) _ rfl (bp BK559.out) Tryz.underlying31 rfl (by kernel_rfl)) rfl ?_
   exact ⟨_, az, by (with_reducible repeat (first | apply Kd.V_alloc | apply Kd.V_drewN | apply Kd.V_drew)); exact Kd.V_mono (Kd.V_far (p := ⟨gb559, 7, none⟩) (Kd.V_far (p := ⟨gb559, 6, none⟩) (Kd.V_far (p := ⟨gb559, 5, none⟩) (Kd.V_far (p := ⟨gb559, 4, none⟩) (Kd.V_far (p := ⟨gb559, 3, none⟩) (Kd.V_far (p := ⟨gb559, 2, none⟩) (Kd.V_far (p := ⟨gb559, 1, none⟩) (Kd.V_far (p := ⟨gb559, 0, none⟩) (Kd.V_far (p := ⟨gb605, 5, none⟩) (Kd.V_far (p := ⟨gb605, 4, none⟩) (Kd.V_far (p := ⟨gb605, 3, none⟩) (Kd.V_far (p := ⟨gb605, 2, none⟩) (Kd.V_far (p := ⟨gb605, 1, none⟩) (Kd.V_far (p := ⟨gb605, 7, none⟩) (Kd.V_far (p := ⟨gb605, 6, none⟩) (Kd.V_far (p := ⟨gb605, 5, none⟩) (Kd.V_far (p := ⟨gb605, 4, none⟩) (Kd.V_far (p := ⟨gb605, 3, none⟩) (Kd.V_far (p := ⟨gb605, 2, none⟩) (Kd.V_far (p := ⟨gb605, 1, none⟩) (Kd.V_far (p := ⟨gb605, 0, none⟩) (Kd.V_mono (Kd.V_mono HO599.out (fun k_ hk => (⟨hk, hk.2⟩ : _ ∧ k_ ≠ gb605))) (fun k_ hk => (⟨hk, hk.1.1.2.1⟩ : _ ∧ k_ ≠ gb559))) (fun _ hk => hk.1.2) (.int .i64 t590)) (fun _ hk => hk.1.2) (.int .i64 t591)) (fun _ hk => hk.1.2) (.int .i64 t592)) (fun _ hk => hk.1.2) (.int .i64 t593)) (fun _ hk => hk.1.2) (.string t594)) (fun _ hk => hk.1.2) (.int .i64 t595)) (fun _ hk => hk.1.2) (.string t596)) (fun _ hk => hk.1.2) (.slice Ao30 t597.length co30)) (fun _ hk => hk.1.2) (.int .i64 t578)) (fun _ hk => hk.1.2) (.int .i64 t579)) (fun _ hk => hk.1.2) (.int .i64 t580)) (fun _ hk => hk.1.2) (.string t581)) (fun _ hk => hk.1.2) (.int .i64 t582)) (fun _ hk => hk.2) (.int .i64 t590)) (fun _ hk => hk.2) (.int .i64 t578)) (fun _ hk => hk.2) (.int .i64 t579)) (fun _ hk => hk.2) (.int .i64 t580)) (fun _ hk => hk.2) (.string t581)) (fun _ hk => hk.2) (.int .i64 t582)) (fun _ hk => hk.2) (.string t596)) (fun _ hk => hk.2) (.slice Ao30 t597.length co30)) (fun _ hk => hk.1.1.1.1), hz HI0.out, bz HB.out, kz HK.out⟩
  replace c22 := Bool.eq_false_iff.mpr c22
  subst c22
  replace H := iff_ H
  have HC36 := am H
  clear H
  go_upto_region 19 with (fail)
  go_cut [99] (fun v99 wc => ∃ (kq : Nat) (x99_35 : Bool), v99 = .bool x99_35 ∧ Aside0 (expr_Parser_prefix.j0 kq x99_35 s0_0 t584 t585 t586 t587 t588 = some (r1, r2, r3, r4, r5, r6, r7, r8, r9, r10, r11, r12, r13)) ∧ Aside0 (kq ≤ k) ∧ Aside0 (wc.heap[gb559]? = some (.cells #[.int .i64 0, .int .i64 0, .int .i64 0, .int .i64 0, .string (⟨#[]⟩ : ByteArray), .int .i64 0, .string (⟨#[]⟩ : ByteArray), (.slice none 0 0)] 31 (0, 0))) ∧ Aside0 (wc.heap[gb589]? = some (.cells #[.int .i64 t578, .int .i64 t579, .int .i64 t580, .string t581, .int .i64 t582] 25 (0, 0))) ∧ Aside0 (IsS63 w0 wc g s0_0 t584 t585 t586 t587 t588) ∧ Aside0 (KeepBut w wc g none) ∧ Aside0 (Below w0.heap.size w0 wc))
  case first =>
   have H := HC36.out
   clear HC36
   by_cases c37 : t584 < (s0_0.length : Int)
   ·rw [if_pos c37] at H
    have c37b0 : decide (t584 < (s0_0.length : Int)) = true := decide_eq_true c37
    clear c37
    (first | rw [c37b0] | (simp only [i64_w, i32_w]; rw [c37b0]) | skip)
    by_cases c38 : 0 ≤ t584
    ·rw [if_pos c38] at H
     have c38b0 : decide (0 ≤ t584) = true := decide_eq_true c38
     clear c38
     by_cases c39 : ((rd_T136 s0_0 t584).f0) = 4
     ·replace H := ipe c39 H
      obtain ⟨H, c39b0, c39b1⟩ := H
      clear c39
      replace H := obe H
      obtain ⟨t608, A40, H⟩ := H
      have H' := am H
      clear H
      try go_wp2
      have n0_ : Aside0 ((((((w18.setCell ⟨gb589, 0, none⟩ (.int .i64 t578)).setCell ⟨gb589, 1, none⟩ (.int .i64 t579)).setCell ⟨gb589, 2, none⟩ (.int .i64 t580)).setCell ⟨gb589, 3, none⟩ (.string t581)).setCell ⟨gb589, 4, none⟩ (.int .i64 t582)).heap[gb559]? = some (.cells #[.int .i64 0, .int .i64 0, .int .i64 0, .int .i64 0, .string (⟨#[]⟩ : ByteArray), .int .i64 0, .string (⟨#[]⟩ : ByteArray), .slice none 0 0] 31 (0, 0))) := ⟨bp BK559.out⟩
      have n1_ : Aside0 ((((((w18.setCell ⟨gb589, 0, none⟩ (.int .i64 t578)).setCell ⟨gb589, 1, none⟩ (.int .i64 t579)).setCell ⟨gb589, 2, none⟩ (.int .i64 t580)).setCell ⟨gb589, 3, none⟩ (.string t581)).setCell ⟨gb589, 4, none⟩ (.int .i64 t582)).heap[gb589]? = some (.cells #[.int .i64 t578, .int .i64 t579, .int .i64 t580, .string t581, .int .i64 t582] 25 (0, 0))) := ⟨bp BK589.out⟩
      have n2_ : Aside0 (IsS63 w0 (((((w18.setCell ⟨gb589, 0, none⟩ (.int .i64 t578)).setCell ⟨gb589, 1, none⟩ (.int .i64 t579)).setCell ⟨gb589, 2, none⟩ (.int .i64 t580)).setCell ⟨gb589, 3, none⟩ (.string t581)).setCell ⟨gb589, 4, none⟩ (.int .i64 t582)) g s0_0 t584 t585 t586 t587 t588) := ⟨hz HI0.out⟩
      have n3_ : Aside0 (KeepBut w (((((w18.setCell ⟨gb589, 0, none⟩ (.int .i64 t578)).setCell ⟨gb589, 1, none⟩ (.int .i64 t579)).setCell ⟨gb589, 2, none⟩ (.int .i64 t580)).setCell ⟨gb589, 3, none⟩ (.string t581)).setCell ⟨gb589, 4, none⟩ (.int .i64 t582)) g none) := ⟨kz HK.out⟩
      have n4_ : Aside0 (Below w0.heap.size w0 (((((w18.setCell ⟨gb589, 0, none⟩ (.int .i64 t578)).setCell ⟨gb589, 1, none⟩ (.int .i64 t579)).setCell ⟨gb589, 2, none⟩ (.int .i64 t580)).setCell ⟨gb589, 3, none⟩ (.string t581)).setCell ⟨gb589, 4, none⟩ (.int .i64 t582))) := ⟨bz HB.out⟩
      (try clear BK559)
      (try clear BK589)
      (try clear HI0)
      (try clear HK)
      (try clear HB)
      generalize (((((w18.setCell ⟨gb589, 0, none⟩ (.int .i64 t578)).setCell ⟨gb589, 1, none⟩ (.int .i64 t579)).setCell ⟨gb589, 2, none⟩ (.int .i64 t580)).setCell ⟨gb589, 3, none⟩ (.string t581)).setCell ⟨gb589, 4, none⟩ (.int .i64 t582)) = w41 at n0_ n1_ n2_ n3_ n4_ ⊢
      have BK559 := n0_
      have BK589 := n1_
      have HI0 := n2_
      have HK := n3_
      have HB := n4_
      clear n0_ n1_ n2_ n3_ n4_
      replace BK559 := am (blk_drew BK559.out)
      replace BK589 := am (blk_drew BK589.out)
      replace HI0 := am (IsS63.drew HI0.out)
      replace HK := am (keep_drew HK.out)
      replace HB := am (below_drew1 HB.out)
      obtain ⟨ASz43_0, cSz43_0, HSz43_0, Z43_0, Z43_1, Z43_2, Z43_3, Z43_4, Z43_5, F43_1, F43_2, F43_3, F43_4, F43_5⟩ := open63 HI0.out
      have p606 : 0 ≤ (t584 : Int) := of_decide_eq_true tz
      have q606 : t584 < (s0_0.length : Int) := of_decide_eq_true tz
      obtain ⟨ad606, e606, hx606_0, hx606_1, hx606_2, hx606_3, hx606_4, hx606_5⟩ := at_T136 HSz43_0 t584 p606 q606
      have hw606_5 := hx606_5
      have hw606_4 := hx606_4
      have hw606_3 := hx606_3
      have hw606_2 := hx606_2
      have hw606_1 := hx606_1
      have hw606_0 := hx606_0
      cases e606
      replace hx606_0 := pw_cell_below HB.out hx606_0
      replace hx606_1 := pw_cell_below HB.out hx606_1
      replace hx606_2 := pw_cell_below HB.out hx606_2
      replace hx606_3 := pw_cell_below HB.out hx606_3
      replace hx606_4 := pw_cell_below HB.out hx606_4
      replace hx606_5 := pw_cell_below HB.out hx606_5
      replace p606 := eq_true p606
      replace q606 := eq_true q606
      have p607 : 0 ≤ (t584 : Int) := of_decide_eq_true tz
      have q607 : t584 < (s0_0.length : Int) := of_decide_eq_true tz
      obtain ⟨ad607, e607, hx607_0, hx607_1, hx607_2, hx607_3, hx607_4, hx607_5⟩ := at_T136 HSz43_0 t584 p607 q607
      have hw607_5 := hx607_5
      have hw607_4 := hx607_4
      have hw607_3 := hx607_3
      have hw607_2 := hx607_2
      have hw607_1 := hx607_1
      have hw607_0 := hx607_0
      obtain rfl : ad606 = ad607 := (by injection e607)
      replace hx607_0 := pw_cell_below HB.out hx607_0
      replace hx607_1 := pw_cell_below HB.out hx607_1
      replace hx607_2 := pw_cell_below HB.out hx607_2
      replace hx607_3 := pw_cell_below HB.out hx607_3
      replace hx607_4 := pw_cell_below HB.out hx607_4
      replace hx607_5 := pw_cell_below HB.out hx607_5
      replace p607 := eq_true p607
      replace q607 := eq_true q607
      refine start_ (n := 38) (S := fun w' => w'.cell? ⟨g, 0, none⟩ = some (.slice (some ad606) s0_0.length cSz43_0) ∧ w'.cell? ⟨g, 1, none⟩ = some (.int .i64 t584) ∧ w'.cell? ⟨g, 2, none⟩ = some (.int .i64 t585) ∧ w'.cell? ⟨g, 3, none⟩ = some (.int .i64 t586) ∧ w'.cell? ⟨g, 4, none⟩ = some (.int .i64 t587) ∧ w'.cell? ⟨g, 5, none⟩ = some (.int .i64 t588) ∧ w'.cell? (ad606.add ((t584).toNat * 6)) = some (.int .i64 ((rd_T136 s0_0 t584).f0)) ∧ w'.cell? ⟨(ad606.add ((t584).toNat * 6)).block, (ad606.add ((t584).toNat * 6)).off + 1, none⟩ = some (.int .i64 ((rd_T136 s0_0 t584).f1)) ∧ w'.cell? ⟨(ad606.add ((t584).toNat * 6)).block, (ad606.add ((t584).toNat * 6)).off + 2, none⟩ = some (.string ((rd_T136 s0_0 t584).f2)) ∧ w'.cell? ⟨(ad606.add ((t584).toNat * 6)).block, (ad606.add ((t584).toNat * 6)).off + 3, none⟩ = some (.int .i64 ((rd_T136 s0_0 t584).f3.f0)) ∧ w'.cell? ⟨(ad606.add ((t584).toNat * 6)).block, (ad606.add ((t584).toNat * 6)).off + 4, none⟩ = some (.int .i64 ((rd_T136 s0_0 t584).f3.f1)) ∧ w'.cell? ⟨(ad606.add ((t584).toNat * 6)).block, (ad606.add ((t584).toNat * 6)).off + 5, none⟩ = some (.int .i64 ((rd_T136 s0_0 t584).f4)) ∧ w'.cell? (ad606.add ((t584).toNat * 6)) = some (.int .i64 ((rd_T136 s0_0 t584).f0)) ∧ w'.cell? ⟨(ad606.add ((t584).toNat * 6)).block, (ad606.add ((t584).toNat * 6)).off + 1, none⟩ = some (.int .i64 ((rd_T136 s0_0 t584).f1)) ∧ w'.cell? ⟨(ad606.add ((t584).toNat * 6)).block, (ad606.add ((t584).toNat * 6)).off + 2, none⟩ = some (.string ((rd_T136 s0_0 t584).f2)) ∧ w'.cell? ⟨(ad606.add ((t584).toNat * 6)).block, (ad606.add ((t584).toNat * 6)).off + 3, none⟩ = some (.int .i64 ((rd_T136 s0_0 t584).f3.f0)) ∧ w'.cell? ⟨(ad606.add ((t584).toNat * 6)).block, (ad606.add ((t584).toNat * 6)).off + 4, none⟩ = some (.int .i64 ((rd_T136 s0_0 t584).f3.f1)) ∧ w'.cell? ⟨(ad606.add ((t584).toNat * 6)).block, (ad606.add ((t584).toNat * 6)).off + 5, none⟩ = some (.int .i64 ((rd_T136 s0_0 t584).f4))) (ds := []) (bts0 38) (by kernel_rfl) rfl rfl ⟨Z43_0, Z43_1, Z43_2, Z43_3, Z43_4, Z43_5, (hbw HB.out hw606_0), (hbw HB.out hw606_1), (hbw HB.out hw606_2), (hbw HB.out hw606_3), (hbw HB.out hw606_4), (hbw HB.out hw606_5), (hbw HB.out hw607_0), (hbw HB.out hw607_1), (hbw HB.out hw607_2), (hbw HB.out hw607_3), (hbw HB.out hw607_4), (hbw HB.out hw607_5)⟩ (fun hHeld => ?_); refine with_tabW expr_Parser_prefix.tab19 expr_Parser_prefix.bits19 (fun HT_ HW_ => ?_)
      generalize w41.drew = w42 at BK559 BK589 HI0 HK HB hx606_0 hx606_1 hx606_2 hx606_3 hx606_4 hx606_5 hx607_0 hx607_1 hx607_2 hx607_3 hx607_4 hx607_5 hHeld ⊢
      refine pu 0 (some 62) (bts 38 1) (any_of HT_.out (by kernel_rfl)) ?_
      refine pu 1 (some 63) (bts 38 3) (any_of HT_.out (by kernel_rfl)) ?_
      refine pu 2 (some 64) (bts 38 7) (any_of HT_.out (by kernel_rfl)) ?_
      refine pu 4 (some 66) (bts 38 23) (any_of HT_.out (by kernel_rfl)) ?_
      refine pu 5 (some 67) (bts 38 55) (any_of HT_.out (by kernel_rfl)) ?_
      refine pu 6 (some 68) (bts 38 119) (any_of HT_.out (by kernel_rfl)) ?_
      refine ta 3 (some 65) (bts 38 127) (take_ofW HT_.out HW_.out (by kernel_rfl)) hHeld ?_
      refine ta 7 (some 69) (bts 38 255) (take_ofW HT_.out HW_.out (by kernel_rfl)) hHeld ?_
      refine pu 8 (some 70) (bts 38 511) (any_of HT_.out (by kernel_rfl)) ?_
      refine pu 9 (some 71) (bts 38 1023) (any_of HT_.out (by kernel_rfl)) ?_
      refine pu 10 (some 72) (bts 38 2047) (any_of HT_.out (by kernel_rfl)) ?_
      refine pu 11 (some 73) (bts 38 4095) (any_of HT_.out (by kernel_rfl)) ?_
      refine pu 12 (some 74) (bts 38 8191) (any_of HT_.out (by kernel_rfl)) ?_
      refine pu 13 (some 75) (bts 38 16383) (any_of HT_.out (by kernel_rfl)) ?_
      refine pu 15 (some 77) (bts 38 49151) (any_of HT_.out (by kernel_rfl)) ?_
      refine pu 16 (some 78) (bts 38 114687) (any_of HT_.out (by kernel_rfl)) ?_
      refine pu 17 (some 79) (bts 38 245759) (any_of HT_.out (by kernel_rfl)) ?_
      refine ta 14 (some 76) (bts 38 262143) (take_ofW HT_.out HW_.out (by kernel_rfl)) hHeld ?_
      refine ta 18 (some 80) (bts 38 524287) (take_ofW HT_.out HW_.out (by kernel_rfl)) hHeld ?_
      refine pu 19 (some 81) (bts 38 1048575) (any_of HT_.out (by kernel_rfl)) ?_
      refine pu 20 (some 82) (bts 38 2097151) (any_of HT_.out (by kernel_rfl)) ?_
      refine ta 21 (some 83) (bts 38 4194303) (take_ofW HT_.out HW_.out (by kernel_rfl)) hHeld ?_
      refine pu 22 (some 84) (bts 38 8388607) (any_of HT_.out (by kernel_rfl)) ?_
      refine pu 23 (some 85) (bts 38 16777215) (any_of HT_.out (by kernel_rfl)) ?_
      refine pu 24 (some 86) (bts 38 33554431) (any_of HT_.out (by kernel_rfl)) ?_
      refine pu 25 (some 87) (bts 38 67108863) (any_of HT_.out (by kernel_rfl)) ?_
      refine pu 26 (some 88) (bts 38 134217727) (any_of HT_.out (by kernel_rfl)) ?_
      refine pu 27 (some 89) (bts 38 268435455) (any_of HT_.out (by kernel_rfl)) ?_
      refine pu 29 (some 91) (bts 38 805306367) (any_of HT_.out (by kernel_rfl)) ?_
      refine pu 30 (some 92) (bts 38 1879048191) (any_of HT_.out (by kernel_rfl)) ?_
      refine pu 31 (some 93) (bts 38 4026531839) (any_of HT_.out (by kernel_rfl)) ?_
      refine ta 28 (some 90) (bts 38 4294967295) (take_ofW HT_.out HW_.out (by kernel_rfl)) hHeld ?_
      refine ta 32 (some 94) (bts 38 8589934591) (take_ofW HT_.out HW_.out (by kernel_rfl)) hHeld ?_
      refine pu 33 (some 95) (bts 38 17179869183) (any_of HT_.out (by kernel_rfl)) ?_
      refine pu 34 (some 96) (bts 38 34359738367) (any_of HT_.out (by kernel_rfl)) ?_
      refine ta 35 (some 97) (bts 38 68719476735) (take_ofW HT_.out HW_.out (by kernel_rfl)) hHeld ?_
      refine one_ (i := 36) (N := some 98) (bts 38 137438953471) rfl rfl (one_of HT_.out (by kernel_rfl)) (by decide) (fun K hK => ?_)
      refine goes_ Tryz.func112 (by kernel_rfl) rfl #[.string ((rd_T136 s0_0 t584).f2)] (by rfl) rfl rfl lz ?_
      with_reducible refine (lex_Word.calls k ((rd_T136 s0_0 t584).f2) t608 _ A40.out).mono ?_
      rintro e w44 ⟨rfl, hb⟩
      have HS0_ := (hb.cell (World.block_lt_of_cell? _ _ (hHeld.1))).trans (hHeld.1)
      have HS1_ := (hb.cell (World.block_lt_of_cell? _ _ (hHeld.2.1))).trans (hHeld.2.1)
      have HS2_ := (hb.cell (World.block_lt_of_cell? _ _ (hHeld.2.2.1))).trans (hHeld.2.2.1)
      have HS3_ := (hb.cell (World.block_lt_of_cell? _ _ (hHeld.2.2.2.1))).trans (hHeld.2.2.2.1)
      have HS4_ := (hb.cell (World.block_lt_of_cell? _ _ (hHeld.2.2.2.2.1))).trans (hHeld.2.2.2.2.1)
      have HS5_ := (hb.cell (World.block_lt_of_cell? _ _ (hHeld.2.2.2.2.2.1))).trans (hHeld.2.2.2.2.2.1)
      refine ⟨_, rfl, ?_⟩
      replace HI0 := am (IsS63.below (hz HI0.out) hb)
      replace BK559 := kb BK559 hb
      replace BK589 := kb BK589 hb
      replace HK := am (KeepBut.trans (kz HK.out) (KeepBut.of_below hb g none) (.inl rfl))
      replace HB := sb HB hb
      (try clear hb)
      (try clear hb2)
      (try clear hk)
      (try clear hi)
      refine hK.out _ _ ⟨HS0_, HS1_, HS2_, HS3_, HS4_, HS5_, (hbw HB.out hw606_0), (hbw HB.out hw606_1), (hbw HB.out hw606_2), (hbw HB.out hw606_3), (hbw HB.out hw606_4), (hbw HB.out hw606_5), (hbw HB.out hw607_0), (hbw HB.out hw607_1), (hbw HB.out hw607_2), (hbw HB.out hw607_3), (hbw HB.out hw607_4), (hbw HB.out hw607_5)⟩ (fun hHeld => ?_)
      clear hK K
      refine norm_ (a' := ?_) ?_ ?_
      rotate_left
      ·show Act.put _ (some 98) _ = _
       simp only [Act.put, List.setIfInBounds_toArray, List.set_cons_zero, List.set_cons_succ, i64_w, i32_w]
       rfl
      refine pu 37 (some 99) (bts 38 274877906943) (any_of HT_.out (by kernel_rfl)) ?_
      refine done_ (done_of HT_.out (by kernel_rfl)) ?_
      try go_wp2
      go_meet
      case rel => exact ⟨_, (t608), sz, H', ⟨oz⟩, ⟨bk BK559.out⟩, ⟨bk BK589.out⟩, ⟨hz HI0.out⟩, ⟨kz HK.out⟩, ⟨bz HB.out⟩⟩
     replace H := ine c39 H
     obtain ⟨H, c39b0, c39b1⟩ := H
     have H' := am H
     clear H
     try go_wp2
     have n0_ : Aside0 ((((((w18.setCell ⟨gb589, 0, none⟩ (.int .i64 t578)).setCell ⟨gb589, 1, none⟩ (.int .i64 t579)).setCell ⟨gb589, 2, none⟩ (.int .i64 t580)).setCell ⟨gb589, 3, none⟩ (.string t581)).setCell ⟨gb589, 4, none⟩ (.int .i64 t582)).heap[gb559]? = some (.cells #[.int .i64 0, .int .i64 0, .int .i64 0, .int .i64 0, .string (⟨#[]⟩ : ByteArray), .int .i64 0, .string (⟨#[]⟩ : ByteArray), .slice none 0 0] 31 (0, 0))) := ⟨bp BK559.out⟩
     have n1_ : Aside0 ((((((w18.setCell ⟨gb589, 0, none⟩ (.int .i64 t578)).setCell ⟨gb589, 1, none⟩ (.int .i64 t579)).setCell ⟨gb589, 2, none⟩ (.int .i64 t580)).setCell ⟨gb589, 3, none⟩ (.string t581)).setCell ⟨gb589, 4, none⟩ (.int .i64 t582)).heap[gb589]? = some (.cells #[.int .i64 t578, .int .i64 t579, .int .i64 t580, .string t581, .int .i64 t582] 25 (0, 0))) := ⟨bp BK589.out⟩
     have n2_ : Aside0 (IsS63 w0 (((((w18.setCell ⟨gb589, 0, none⟩ (.int .i64 t578)).setCell ⟨gb589, 1, none⟩ (.int .i64 t579)).setCell ⟨gb589, 2, none⟩ (.int .i64 t580)).setCell ⟨gb589, 3, none⟩ (.string t581)).setCell ⟨gb589, 4, none⟩ (.int .i64 t582)) g s0_0 t584 t585 t586 t587 t588) := ⟨hz HI0.out⟩
     have n3_ : Aside0 (KeepBut w (((((w18.setCell ⟨gb589, 0, none⟩ (.int .i64 t578)).setCell ⟨gb589, 1, none⟩ (.int .i64 t579)).setCell ⟨gb589, 2, none⟩ (.int .i64 t580)).setCell ⟨gb589, 3, none⟩ (.string t581)).setCell ⟨gb589, 4, none⟩ (.int .i64 t582)) g none) := ⟨kz HK.out⟩
     have n4_ : Aside0 (Below w0.heap.size w0 (((((w18.setCell ⟨gb589, 0, none⟩ (.int .i64 t578)).setCell ⟨gb589, 1, none⟩ (.int .i64 t579)).setCell ⟨gb589, 2, none⟩ (.int .i64 t580)).setCell ⟨gb589, 3, none⟩ (.string t581)).setCell ⟨gb589, 4, none⟩ (.int .i64 t582))) := ⟨bz HB.out⟩
     (try clear BK559)
     (try clear BK589)
     (try clear HI0)
     (try clear HK)
     (try clear HB)
     generalize (((((w18.setCell ⟨gb589, 0, none⟩ (.int .i64 t578)).setCell ⟨gb589, 1, none⟩ (.int .i64 t579)).setCell ⟨gb589, 2, none⟩ (.int .i64 t580)).setCell ⟨gb589, 3, none⟩ (.string t581)).setCell ⟨gb589, 4, none⟩ (.int .i64 t582)) = w45 at n0_ n1_ n2_ n3_ n4_ ⊢
     have BK559 := n0_
     have BK589 := n1_
     have HI0 := n2_
     have HK := n3_
     have HB := n4_
     clear n0_ n1_ n2_ n3_ n4_
     replace BK559 := am (blk_drew BK559.out)
     replace BK589 := am (blk_drew BK589.out)
     replace HI0 := am (IsS63.drew HI0.out)
     replace HK := am (keep_drew HK.out)
     replace HB := am (below_drew1 HB.out)
     obtain ⟨ASz47_0, cSz47_0, HSz47_0, Z47_0, Z47_1, Z47_2, Z47_3, Z47_4, Z47_5, F47_1, F47_2, F47_3, F47_4, F47_5⟩ := open63 HI0.out
     have p606 : 0 ≤ (t584 : Int) := of_decide_eq_true tz
     have q606 : t584 < (s0_0.length : Int) := of_decide_eq_true tz
     obtain ⟨ad606, e606, hx606_0, hx606_1, hx606_2, hx606_3, hx606_4, hx606_5⟩ := at_T136 HSz47_0 t584 p606 q606
     have hw606_5 := hx606_5
     have hw606_4 := hx606_4
     have hw606_3 := hx606_3
     have hw606_2 := hx606_2
     have hw606_1 := hx606_1
     have hw606_0 := hx606_0
     cases e606
     replace hx606_0 := pw_cell_below HB.out hx606_0
     replace hx606_1 := pw_cell_below HB.out hx606_1
     replace hx606_2 := pw_cell_below HB.out hx606_2
     replace hx606_3 := pw_cell_below HB.out hx606_3
     replace hx606_4 := pw_cell_below HB.out hx606_4
     replace hx606_5 := pw_cell_below HB.out hx606_5
     replace p606 := eq_true p606
     replace q606 := eq_true q606
     refine start_ (n := 38) (S := fun w' => w'.cell? ⟨g, 0, none⟩ = some (.slice (some ad606) s0_0.length cSz47_0) ∧ w'.cell? ⟨g, 1, none⟩ = some (.int .i64 t584) ∧ w'.cell? ⟨g, 2, none⟩ = some (.int .i64 t585) ∧ w'.cell? ⟨g, 3, none⟩ = some (.int .i64 t586) ∧ w'.cell? ⟨g, 4, none⟩ = some (.int .i64 t587) ∧ w'.cell? ⟨g, 5, none⟩ = some (.int .i64 t588) ∧ w'.cell? (ad606.add ((t584).toNat * 6)) = some (.int .i64 ((rd_T136 s0_0 t584).f0)) ∧ w'.cell? ⟨(ad606.add ((t584).toNat * 6)).block, (ad606.add ((t584).toNat * 6)).off + 1, none⟩ = some (.int .i64 ((rd_T136 s0_0 t584).f1)) ∧ w'.cell? ⟨(ad606.add ((t584).toNat * 6)).block, (ad606.add ((t584).toNat * 6)).off + 2, none⟩ = some (.string ((rd_T136 s0_0 t584).f2)) ∧ w'.cell? ⟨(ad606.add ((t584).toNat * 6)).block, (ad606.add ((t584).toNat * 6)).off + 3, none⟩ = some (.int .i64 ((rd_T136 s0_0 t584).f3.f0)) ∧ w'.cell? ⟨(ad606.add ((t584).toNat * 6)).block, (ad606.add ((t584).toNat * 6)).off + 4, none⟩ = some (.int .i64 ((rd_T136 s0_0 t584).f3.f1)) ∧ w'.cell? ⟨(ad606.add ((t584).toNat * 6)).block, (ad606.add ((t584).toNat * 6)).off + 5, none⟩ = some (.int .i64 ((rd_T136 s0_0 t584).f4))) (ds := []) (bts0 38) (by kernel_rfl) rfl rfl ⟨Z47_0, Z47_1, Z47_2, Z47_3, Z47_4, Z47_5, (hbw HB.out hw606_0), (hbw HB.out hw606_1), (hbw HB.out hw606_2), (hbw HB.out hw606_3), (hbw HB.out hw606_4), (hbw HB.out hw606_5)⟩ (fun hHeld => ?_); refine with_tabW expr_Parser_prefix.tab19 expr_Parser_prefix.bits19 (fun HT_ HW_ => ?_)
     generalize w45.drew = w46 at BK559 BK589 HI0 HK HB hx606_0 hx606_1 hx606_2 hx606_3 hx606_4 hx606_5 hHeld ⊢
     refine pu 0 (some 62) (bts 38 1) (any_of HT_.out (by kernel_rfl)) ?_
     refine pu 1 (some 63) (bts 38 3) (any_of HT_.out (by kernel_rfl)) ?_
     refine pu 2 (some 64) (bts 38 7) (any_of HT_.out (by kernel_rfl)) ?_
     refine pu 4 (some 66) (bts 38 23) (any_of HT_.out (by kernel_rfl)) ?_
     refine pu 5 (some 67) (bts 38 55) (any_of HT_.out (by kernel_rfl)) ?_
     refine pu 6 (some 68) (bts 38 119) (any_of HT_.out (by kernel_rfl)) ?_
     refine ta 3 (some 65) (bts 38 127) (take_ofW HT_.out HW_.out (by kernel_rfl)) hHeld ?_
     refine ta 7 (some 69) (bts 38 255) (take_ofW HT_.out HW_.out (by kernel_rfl)) hHeld ?_
     refine pu 8 (some 70) (bts 38 511) (any_of HT_.out (by kernel_rfl)) ?_
     refine pu 9 (some 71) (bts 38 1023) (any_of HT_.out (by kernel_rfl)) ?_
     refine pu 10 (some 72) (bts 38 2047) (any_of HT_.out (by kernel_rfl)) ?_
     refine pu 11 (some 73) (bts 38 4095) (any_of HT_.out (by kernel_rfl)) ?_
     refine pu 12 (some 74) (bts 38 8191) (any_of HT_.out (by kernel_rfl)) ?_
     refine pu 13 (some 75) (bts 38 16383) (any_of HT_.out (by kernel_rfl)) ?_
     refine pu 15 (some 77) (bts 38 49151) (any_of HT_.out (by kernel_rfl)) ?_
     refine pu 16 (some 78) (bts 38 114687) (any_of HT_.out (by kernel_rfl)) ?_
     refine pu 17 (some 79) (bts 38 245759) (any_of HT_.out (by kernel_rfl)) ?_
     refine ta 14 (some 76) (bts 38 262143) (take_ofW HT_.out HW_.out (by kernel_rfl)) hHeld ?_
     refine ta 18 (some 80) (bts 38 524287) (take_ofW HT_.out HW_.out (by kernel_rfl)) hHeld ?_
     refine pu 19 (some 81) (bts 38 1048575) (any_of HT_.out (by kernel_rfl)) ?_
     refine pu 20 (some 82) (bts 38 2097151) (any_of HT_.out (by kernel_rfl)) ?_
     refine ta 21 (some 83) (bts 38 4194303) (take_ofW HT_.out HW_.out (by kernel_rfl)) hHeld ?_
     refine pu 22 (some 84) (bts 38 8388607) (any_of HT_.out (by kernel_rfl)) ?_
     refine pu 23 (some 85) (bts 38 16777215) (any_of HT_.out (by kernel_rfl)) ?_
     refine pu 24 (some 86) (bts 38 33554431) (any_of HT_.out (by kernel_rfl)) ?_
     refine pn 25 (some 87) (bts 38 67108863) (any_of HT_.out (by kernel_rfl)) ?_
     refine pn 26 (some 88) (bts 38 134217727) (any_of HT_.out (by kernel_rfl)) ?_
     refine pn 27 (some 89) (bts 38 268435455) (any_of HT_.out (by kernel_rfl)) ?_
     refine pn 28 (some 90) (bts 38 536870911) (any_of HT_.out (by kernel_rfl)) ?_
     refine pn 29 (some 91) (bts 38 1073741823) (any_of HT_.out (by kernel_rfl)) ?_
     refine pn 30 (some 92) (bts 38 2147483647) (any_of HT_.out (by kernel_rfl)) ?_
     refine pn 31 (some 93) (bts 38 4294967295) (any_of HT_.out (by kernel_rfl)) ?_
     refine pn 32 (some 94) (bts 38 8589934591) (any_of HT_.out (by kernel_rfl)) ?_
     refine pn 33 (some 95) (bts 38 17179869183) (any_of HT_.out (by kernel_rfl)) ?_
     refine pn 34 (some 96) (bts 38 34359738367) (any_of HT_.out (by kernel_rfl)) ?_
     refine pn 35 (some 97) (bts 38 68719476735) (any_of HT_.out (by kernel_rfl)) ?_
     refine pn 36 (some 98) (bts 38 137438953471) (any_of HT_.out (by kernel_rfl)) ?_
     refine pu 37 (some 99) (bts 38 274877906943) (any_of HT_.out (by kernel_rfl)) ?_
     refine done_ (done_of HT_.out (by kernel_rfl)) ?_
     try go_wp2
     go_meet
     case rel => exact ⟨_, (false), sz, H', ⟨oz⟩, ⟨bk BK559.out⟩, ⟨bk BK589.out⟩, ⟨hz HI0.out⟩, ⟨kz HK.out⟩, ⟨bz HB.out⟩⟩
    rw [if_neg c38] at H
    exact absurd H (by simp)
   rw [if_neg c37] at H
   have c37b0 : decide (t584 < (s0_0.length : Int)) = false := decide_eq_false c37
   clear c37
   (first | rw [c37b0] | (simp only [i64_w, i32_w]; rw [c37b0]) | skip)
   have H' := am H
   clear H
   try go_wp2
   have n0_ : Aside0 ((((((w18.setCell ⟨gb589, 0, none⟩ (.int .i64 t578)).setCell ⟨gb589, 1, none⟩ (.int .i64 t579)).setCell ⟨gb589, 2, none⟩ (.int .i64 t580)).setCell ⟨gb589, 3, none⟩ (.string t581)).setCell ⟨gb589, 4, none⟩ (.int .i64 t582)).heap[gb559]? = some (.cells #[.int .i64 0, .int .i64 0, .int .i64 0, .int .i64 0, .string (⟨#[]⟩ : ByteArray), .int .i64 0, .string (⟨#[]⟩ : ByteArray), .slice none 0 0] 31 (0, 0))) := ⟨bp BK559.out⟩
   have n1_ : Aside0 ((((((w18.setCell ⟨gb589, 0, none⟩ (.int .i64 t578)).setCell ⟨gb589, 1, none⟩ (.int .i64 t579)).setCell ⟨gb589, 2, none⟩ (.int .i64 t580)).setCell ⟨gb589, 3, none⟩ (.string t581)).setCell ⟨gb589, 4, none⟩ (.int .i64 t582)).heap[gb589]? = some (.cells #[.int .i64 t578, .int .i64 t579, .int .i64 t580, .string t581, .int .i64 t582] 25 (0, 0))) := ⟨bp BK589.out⟩
   have n2_ : Aside0 (IsS63 w0 (((((w18.setCell ⟨gb589, 0, none⟩ (.int .i64 t578)).setCell ⟨gb589, 1, none⟩ (.int .i64 t579)).setCell ⟨gb589, 2, none⟩ (.int .i64 t580)).setCell ⟨gb589, 3, none⟩ (.string t581)).setCell ⟨gb589, 4, none⟩ (.int .i64 t582)) g s0_0 t584 t585 t586 t587 t588) := ⟨hz HI0.out⟩
   have n3_ : Aside0 (KeepBut w (((((w18.setCell ⟨gb589, 0, none⟩ (.int .i64 t578)).setCell ⟨gb589, 1, none⟩ (.int .i64 t579)).setCell ⟨gb589, 2, none⟩ (.int .i64 t580)).setCell ⟨gb589, 3, none⟩ (.string t581)).setCell ⟨gb589, 4, none⟩ (.int .i64 t582)) g none) := ⟨kz HK.out⟩
   have n4_ : Aside0 (Below w0.heap.size w0 (((((w18.setCell ⟨gb589, 0, none⟩ (.int .i64 t578)).setCell ⟨gb589, 1, none⟩ (.int .i64 t579)).setCell ⟨gb589, 2, none⟩ (.int .i64 t580)).setCell ⟨gb589, 3, none⟩ (.string t581)).setCell ⟨gb589, 4, none⟩ (.int .i64 t582))) := ⟨bz HB.out⟩
   (try clear BK559)
   (try clear BK589)
   (try clear HI0)
   (try clear HK)
   (try clear HB)
   generalize (((((w18.setCell ⟨gb589, 0, none⟩ (.int .i64 t578)).setCell ⟨gb589, 1, none⟩ (.int .i64 t579)).setCell ⟨gb589, 2, none⟩ (.int .i64 t580)).setCell ⟨gb589, 3, none⟩ (.string t581)).setCell ⟨gb589, 4, none⟩ (.int .i64 t582)) = w48 at n0_ n1_ n2_ n3_ n4_ ⊢
   have BK559 := n0_
   have BK589 := n1_
   have HI0 := n2_
   have HK := n3_
   have HB := n4_
   clear n0_ n1_ n2_ n3_ n4_
   replace BK559 := am (blk_drew BK559.out)
   replace BK589 := am (blk_drew BK589.out)
   replace HI0 := am (IsS63.drew HI0.out)
   replace HK := am (keep_drew HK.out)
   replace HB := am (below_drew1 HB.out)
   obtain ⟨ASz50_0, cSz50_0, HSz50_0, Z50_0, Z50_1, Z50_2, Z50_3, Z50_4, Z50_5, F50_1, F50_2, F50_3, F50_4, F50_5⟩ := open63 HI0.out
   refine start_ (n := 38) (S := fun w' => w'.cell? ⟨g, 0, none⟩ = some (.slice ASz50_0 s0_0.length cSz50_0) ∧ w'.cell? ⟨g, 1, none⟩ = some (.int .i64 t584) ∧ w'.cell? ⟨g, 2, none⟩ = some (.int .i64 t585) ∧ w'.cell? ⟨g, 3, none⟩ = some (.int .i64 t586) ∧ w'.cell? ⟨g, 4, none⟩ = some (.int .i64 t587) ∧ w'.cell? ⟨g, 5, none⟩ = some (.int .i64 t588)) (ds := []) (bts0 38) (by kernel_rfl) rfl rfl ⟨Z50_0, Z50_1, Z50_2, Z50_3, Z50_4, Z50_5⟩ (fun hHeld => ?_); refine with_tabW expr_Parser_prefix.tab19 expr_Parser_prefix.bits19 (fun HT_ HW_ => ?_)
   generalize w48.drew = w49 at BK559 BK589 HI0 HK HB hHeld ⊢
   refine pu 0 (some 62) (bts 38 1) (any_of HT_.out (by kernel_rfl)) ?_
   refine pu 1 (some 63) (bts 38 3) (any_of HT_.out (by kernel_rfl)) ?_
   refine pu 2 (some 64) (bts 38 7) (any_of HT_.out (by kernel_rfl)) ?_
   refine pu 4 (some 66) (bts 38 23) (any_of HT_.out (by kernel_rfl)) ?_
   refine pu 5 (some 67) (bts 38 55) (any_of HT_.out (by kernel_rfl)) ?_
   refine pu 6 (some 68) (bts 38 119) (any_of HT_.out (by kernel_rfl)) ?_
   refine ta 3 (some 65) (bts 38 127) (take_ofW HT_.out HW_.out (by kernel_rfl)) hHeld ?_
   refine ta 7 (some 69) (bts 38 255) (take_ofW HT_.out HW_.out (by kernel_rfl)) hHeld ?_
   refine pu 8 (some 70) (bts 38 511) (any_of HT_.out (by kernel_rfl)) ?_
   refine pu 9 (some 71) (bts 38 1023) (any_of HT_.out (by kernel_rfl)) ?_
   refine pu 10 (some 72) (bts 38 2047) (any_of HT_.out (by kernel_rfl)) ?_
   refine pn 11 (some 73) (bts 38 4095) (any_of HT_.out (by kernel_rfl)) ?_
   refine pn 12 (some 74) (bts 38 8191) (any_of HT_.out (by kernel_rfl)) ?_
   refine pn 13 (some 75) (bts 38 16383) (any_of HT_.out (by kernel_rfl)) ?_
   refine pn 14 (some 76) (bts 38 32767) (any_of HT_.out (by kernel_rfl)) ?_
   refine pn 15 (some 77) (bts 38 65535) (any_of HT_.out (by kernel_rfl)) ?_
   refine pn 16 (some 78) (bts 38 131071) (any_of HT_.out (by kernel_rfl)) ?_
   refine pn 17 (some 79) (bts 38 262143) (any_of HT_.out (by kernel_rfl)) ?_
   refine pn 18 (some 80) (bts 38 524287) (any_of HT_.out (by kernel_rfl)) ?_
   refine pn 19 (some 81) (bts 38 1048575) (any_of HT_.out (by kernel_rfl)) ?_
   refine pn 20 (some 82) (bts 38 2097151) (any_of HT_.out (by kernel_rfl)) ?_
   refine pn 21 (some 83) (bts 38 4194303) (any_of HT_.out (by kernel_rfl)) ?_
   refine pn 22 (some 84) (bts 38 8388607) (any_of HT_.out (by kernel_rfl)) ?_
   refine pu 23 (some 85) (bts 38 16777215) (any_of HT_.out (by kernel_rfl)) ?_
   refine pu 24 (some 86) (bts 38 33554431) (any_of HT_.out (by kernel_rfl)) ?_
   refine pn 25 (some 87) (bts 38 67108863) (any_of HT_.out (by kernel_rfl)) ?_
   refine pn 26 (some 88) (bts 38 134217727) (any_of HT_.out (by kernel_rfl)) ?_
   refine pn 27 (some 89) (bts 38 268435455) (any_of HT_.out (by kernel_rfl)) ?_
   refine pn 28 (some 90) (bts 38 536870911) (any_of HT_.out (by kernel_rfl)) ?_
   refine pn 29 (some 91) (bts 38 1073741823) (any_of HT_.out (by kernel_rfl)) ?_
   refine pn 30 (some 92) (bts 38 2147483647) (any_of HT_.out (by kernel_rfl)) ?_
   refine pn 31 (some 93) (bts 38 4294967295) (any_of HT_.out (by kernel_rfl)) ?_
   refine pn 32 (some 94) (bts 38 8589934591) (any_of HT_.out (by kernel_rfl)) ?_
   refine pn 33 (some 95) (bts 38 17179869183) (any_of HT_.out (by kernel_rfl)) ?_
   refine pn 34 (some 96) (bts 38 34359738367) (any_of HT_.out (by kernel_rfl)) ?_
   refine pn 35 (some 97) (bts 38 68719476735) (any_of HT_.out (by kernel_rfl)) ?_
   refine pn 36 (some 98) (bts 38 137438953471) (any_of HT_.out (by kernel_rfl)) ?_
   refine pu 37 (some 99) (bts 38 274877906943) (any_of HT_.out (by kernel_rfl)) ?_
   refine done_ (done_of HT_.out (by kernel_rfl)) ?_
   try go_wp2
   go_meet
   case rel => exact ⟨_, (false), sz, H', ⟨oz⟩, ⟨bk BK559.out⟩, ⟨bk BK589.out⟩, ⟨hz HI0.out⟩, ⟨kz HK.out⟩, ⟨bz HB.out⟩⟩
  case rest =>
   clear HC36
   try clear c3
   obtain ⟨kq, x99_35, rfl, HA, HJ35, BK559, BK589, HI0, HK, HB⟩ := hcut
   cases kq with
   | zero => exact absurd HA.out (by simp [expr_Parser_prefix.j0])
   | succ kj35 =>
    have H := HA.out
    clear HA
    simp only [expr_Parser_prefix.j0] at H
    by_cases c51 : x99_35 = true
    ·subst c51
     replace H := ift H
     replace H := obe13 H
     obtain ⟨t609, t610, t611, t612, t613, t614, t615, t616, t619, t620, t621, t622, t623, A52, H⟩ := H
     by_cases c53 : 0 ≤ t619
     ·rw [if_pos c53] at H
      have c53b0 : decide (0 ≤ t619) = true := decide_eq_true c53
      clear c53
      by_cases c54 : t619 < (s0_0.length : Int)
      ·rw [if_pos c54] at H
       have c54b0 : decide (t619 < (s0_0.length : Int)) = true := decide_eq_true c54
       clear c54
       simp only [Option.some.injEq, Prod.mk.injEq] at H
       obtain ⟨rfl, rfl, rfl, rfl, rfl, rfl, rfl, rfl, rfl, rfl, rfl, rfl, rfl⟩ := H
       try go_wp2_with (first | ((with_reducible refine gate_callee (f := 66) rfl ?_); refine gl_ (some 101) Tryz.func66 (by kernel_rfl) #[.pointer (some ⟨g, 0, none⟩), .int .i64 2, .slice none 0 0] rfl ?_; (refine (expr_Parser_make.calls g s0_0 t584 t585 t586 t587 t588 2 (fun k_ => False) _ _ ([] : List (S31)) t609 t610 t611 t612 t613 t614 t615 t616 t619 t620 t621 t622 t623 w0 _ ?side1 ?side2 ?side3 A52.out).mono ?_); (case side1 => exact hz HI0.out); (case side2 => exact bz HB.out); (case side3 => exact Kd.V_nil _ _ _ _ _); rintro e w55 ⟨v617, rfl, ho0, hi, hb, hk⟩; refine ⟨_, rfl, ?_⟩; have HO618 := am (Kd.V_lower (Kd.V_mono (ok' := fun k_ => (w.heap.size ≤ k_) ∧ k_ ≠ gb559 ∧ k_ ≠ gb589 ∧ k_ ≠ g) ho0 (fun k_ hk_ => ⟨Or.elim hk_ (fun hs_ => (hs_).elim) (fun hn_ => (Nat.le_trans (keep_size (w := w) (g := g) (row := none) (kz HK.out)) hn_)), Or.elim hk_ (fun hs_ => (hs_).elim) (fun hn_ => (Kd.freshB (bk BK559.out) k_ hn_)), Or.elim hk_ (fun hs_ => (hs_).elim) (fun hn_ => (Kd.freshB (bk BK589.out) k_ hn_)), Or.elim hk_ (fun hs_ => (hs_).elim) (fun hn_ => (IsS63.fresh (hz HI0.out) k_ hn_))⟩)) (keep_size (w := w) (g := g) (row := none) (kz HK.out))); replace BK559 := am (KeepBut.blk hk (bk BK559.out) NB559_0.out (by simp)); replace BK589 := am (KeepBut.blk hk (bk BK589.out) NB589_0.out (by simp)); replace HK := am (KeepBut.trans (kz HK.out) hk (.inl rfl)); replace HB := am (hb); replace HI0 := am (hi); clear hb hk hi ho0) | ((with_reducible refine gate_dst (N := 10) rfl ?_); refine bev (#[.int .i64 0, .int .i64 0, .int .i64 0, .int .i64 0, .string (⟨#[]⟩ : ByteArray), .int .i64 0, .string (⟨#[]⟩ : ByteArray), .slice none 0 0]) 31 ?_; intro gb624 hg w56 hbox hb; replace HO618 := am (Kd.V_below (Kd.V_elderB (vv HO618.out) gb624 (Nat.le_of_eq hg.symm)) hb); replace HB := sb HB hb; have BK624 := am (hbox); have GW624 := gk hg HK; have GE624 := am (Nat.le_trans HW0.out GW624.out); replace HK := am (KeepBut.trans (kz HK.out) (KeepBut.of_below hb g none) (.inl rfl)); have NB559_624 := na hg BK559; have NB624_559 := nb hg BK559; replace BK559 := kb BK559 hb; have NB589_624 := na hg BK589; have NB624_589 := nb hg BK589; replace BK589 := kb BK589 hb; have NB0_624 := am ((nlt (a := g) hg (IsS63.lt (show IsS63 w0 _ g s0_0 t619 t620 t621 t622 t623 from hz HI0.out)))); have NB624_0 := am ((ngt (a := g) hg (IsS63.lt (show IsS63 w0 _ g s0_0 t619 t620 t621 t622 t623 from hz HI0.out)))); replace HI0 := am (IsS63.below (hz HI0.out) hb); clear hb hbox hg; have hnb57 := NB624_559.out; have hnc57 := NB559_624.out; have hnb58 := NB624_589.out; have hnc58 := NB589_624.out; have hnb59 := NB624_0.out; have hnc59 := NB0_624.out; obtain ⟨Z60_0, Z60_1, Z60_2, Z60_3, Z60_4, Z60_5, Z60_6, Z60_7, F60_0, F60_1, F60_2, F60_3, F60_4, F60_5, F60_6, F60_7⟩ := cz8 BK624.out; obtain ⟨Ao61, co61, eo61⟩ := Kd.V_slice HO618.out; subst eo61))
       have n0_ : Aside0 (Kd.V k31 31 ((((((((w56.setCell ⟨gb624, 0, none⟩ (.int .i64 t609)).setCell ⟨gb624, 1, none⟩ (.int .i64 t610)).setCell ⟨gb624, 2, none⟩ (.int .i64 t611)).setCell ⟨gb624, 3, none⟩ (.int .i64 t612)).setCell ⟨gb624, 4, none⟩ (.string t613)).setCell ⟨gb624, 5, none⟩ (.int .i64 t614)).setCell ⟨gb624, 6, none⟩ (.string t615)).setCell ⟨gb624, 7, none⟩ (.slice Ao61 t616.length co61)) w.heap.size (fun k_ => (w.heap.size ≤ k_) ∧ k_ ≠ gb559 ∧ k_ ≠ gb589 ∧ k_ ≠ g ∧ k_ ≠ gb624) (.slice Ao61 t616.length co61) t616) := ⟨vfV HO618.out⟩
       have n1_ : Aside0 (((((((((w56.setCell ⟨gb624, 0, none⟩ (.int .i64 t609)).setCell ⟨gb624, 1, none⟩ (.int .i64 t610)).setCell ⟨gb624, 2, none⟩ (.int .i64 t611)).setCell ⟨gb624, 3, none⟩ (.int .i64 t612)).setCell ⟨gb624, 4, none⟩ (.string t613)).setCell ⟨gb624, 5, none⟩ (.int .i64 t614)).setCell ⟨gb624, 6, none⟩ (.string t615)).setCell ⟨gb624, 7, none⟩ (.slice Ao61 t616.length co61)).heap[gb559]? = some (.cells #[.int .i64 0, .int .i64 0, .int .i64 0, .int .i64 0, .string (⟨#[]⟩ : ByteArray), .int .i64 0, .string (⟨#[]⟩ : ByteArray), .slice none 0 0] 31 (0, 0))) := ⟨bp BK559.out⟩
       have n2_ : Aside0 (((((((((w56.setCell ⟨gb624, 0, none⟩ (.int .i64 t609)).setCell ⟨gb624, 1, none⟩ (.int .i64 t610)).setCell ⟨gb624, 2, none⟩ (.int .i64 t611)).setCell ⟨gb624, 3, none⟩ (.int .i64 t612)).setCell ⟨gb624, 4, none⟩ (.string t613)).setCell ⟨gb624, 5, none⟩ (.int .i64 t614)).setCell ⟨gb624, 6, none⟩ (.string t615)).setCell ⟨gb624, 7, none⟩ (.slice Ao61 t616.length co61)).heap[gb589]? = some (.cells #[.int .i64 t578, .int .i64 t579, .int .i64 t580, .string t581, .int .i64 t582] 25 (0, 0))) := ⟨bp BK589.out⟩
       have n3_ : Aside0 (((((((((w56.setCell ⟨gb624, 0, none⟩ (.int .i64 t609)).setCell ⟨gb624, 1, none⟩ (.int .i64 t610)).setCell ⟨gb624, 2, none⟩ (.int .i64 t611)).setCell ⟨gb624, 3, none⟩ (.int .i64 t612)).setCell ⟨gb624, 4, none⟩ (.string t613)).setCell ⟨gb624, 5, none⟩ (.int .i64 t614)).setCell ⟨gb624, 6, none⟩ (.string t615)).setCell ⟨gb624, 7, none⟩ (.slice Ao61 t616.length co61)).heap[gb624]? = some (.cells #[.int .i64 t609, .int .i64 t610, .int .i64 t611, .int .i64 t612, .string t613, .int .i64 t614, .string t615, .slice Ao61 t616.length co61] 31 (0, 0))) := ⟨bp BK624.out⟩
       have n4_ : Aside0 (IsS63 w0 ((((((((w56.setCell ⟨gb624, 0, none⟩ (.int .i64 t609)).setCell ⟨gb624, 1, none⟩ (.int .i64 t610)).setCell ⟨gb624, 2, none⟩ (.int .i64 t611)).setCell ⟨gb624, 3, none⟩ (.int .i64 t612)).setCell ⟨gb624, 4, none⟩ (.string t613)).setCell ⟨gb624, 5, none⟩ (.int .i64 t614)).setCell ⟨gb624, 6, none⟩ (.string t615)).setCell ⟨gb624, 7, none⟩ (.slice Ao61 t616.length co61)) g s0_0 t619 t620 t621 t622 t623) := ⟨hz HI0.out⟩
       have n5_ : Aside0 (KeepBut w ((((((((w56.setCell ⟨gb624, 0, none⟩ (.int .i64 t609)).setCell ⟨gb624, 1, none⟩ (.int .i64 t610)).setCell ⟨gb624, 2, none⟩ (.int .i64 t611)).setCell ⟨gb624, 3, none⟩ (.int .i64 t612)).setCell ⟨gb624, 4, none⟩ (.string t613)).setCell ⟨gb624, 5, none⟩ (.int .i64 t614)).setCell ⟨gb624, 6, none⟩ (.string t615)).setCell ⟨gb624, 7, none⟩ (.slice Ao61 t616.length co61)) g none) := ⟨kz HK.out⟩
       have n6_ : Aside0 (Below w0.heap.size w0 ((((((((w56.setCell ⟨gb624, 0, none⟩ (.int .i64 t609)).setCell ⟨gb624, 1, none⟩ (.int .i64 t610)).setCell ⟨gb624, 2, none⟩ (.int .i64 t611)).setCell ⟨gb624, 3, none⟩ (.int .i64 t612)).setCell ⟨gb624, 4, none⟩ (.string t613)).setCell ⟨gb624, 5, none⟩ (.int .i64 t614)).setCell ⟨gb624, 6, none⟩ (.string t615)).setCell ⟨gb624, 7, none⟩ (.slice Ao61 t616.length co61))) := ⟨bz HB.out⟩
       (try clear HO618)
       (try clear BK559)
       (try clear BK589)
       (try clear BK624)
       (try clear HI0)
       (try clear HK)
       (try clear HB)
       generalize ((((((((w56.setCell ⟨gb624, 0, none⟩ (.int .i64 t609)).setCell ⟨gb624, 1, none⟩ (.int .i64 t610)).setCell ⟨gb624, 2, none⟩ (.int .i64 t611)).setCell ⟨gb624, 3, none⟩ (.int .i64 t612)).setCell ⟨gb624, 4, none⟩ (.string t613)).setCell ⟨gb624, 5, none⟩ (.int .i64 t614)).setCell ⟨gb624, 6, none⟩ (.string t615)).setCell ⟨gb624, 7, none⟩ (.slice Ao61 t616.length co61)) = w62 at n0_ n1_ n2_ n3_ n4_ n5_ n6_ ⊢
       have HO618 := n0_
       have BK559 := n1_
       have BK589 := n2_
       have BK624 := n3_
       have HI0 := n4_
       have HK := n5_
       have HB := n6_
       clear n0_ n1_ n2_ n3_ n4_ n5_ n6_
       replace HO618 := am (Kd.V_drew HO618.out)
       replace BK559 := am (blk_drew BK559.out)
       replace BK589 := am (blk_drew BK589.out)
       replace BK624 := am (blk_drew BK624.out)
       replace HI0 := am (IsS63.drew HI0.out)
       replace HK := am (keep_drew HK.out)
       replace HB := am (below_drew1 HB.out)
       obtain ⟨ASz64_0, cSz64_0, HSz64_0, Z64_0, Z64_1, Z64_2, Z64_3, Z64_4, Z64_5, F64_1, F64_2, F64_3, F64_4, F64_5⟩ := open63 HI0.out
       have p625 : 0 ≤ (t619 : Int) := of_decide_eq_true tz
       have q625 : t619 < (s0_0.length : Int) := of_decide_eq_true tz
       obtain ⟨ad625, e625, hx625_0, hx625_1, hx625_2, hx625_3, hx625_4, hx625_5⟩ := at_T136 HSz64_0 t619 p625 q625
       have hw625_5 := hx625_5
       have hw625_4 := hx625_4
       have hw625_3 := hx625_3
       have hw625_2 := hx625_2
       have hw625_1 := hx625_1
       have hw625_0 := hx625_0
       cases e625
       replace hx625_0 := pw_cell_below HB.out hx625_0
       replace hx625_1 := pw_cell_below HB.out hx625_1
       replace hx625_2 := pw_cell_below HB.out hx625_2
       replace hx625_3 := pw_cell_below HB.out hx625_3
       replace hx625_4 := pw_cell_below HB.out hx625_4
       replace hx625_5 := pw_cell_below HB.out hx625_5
       replace p625 := eq_true p625
       replace q625 := eq_true q625
       refine start_ (n := 13) (S := fun w' => w'.cell? ⟨g, 0, none⟩ = some (.slice (some ad625) s0_0.length cSz64_0) ∧ w'.cell? ⟨g, 1, none⟩ = some (.int .i64 t619) ∧ w'.cell? ⟨g, 2, none⟩ = some (.int .i64 t620) ∧ w'.cell? ⟨g, 3, none⟩ = some (.int .i64 t621) ∧ w'.cell? ⟨g, 4, none⟩ = some (.int .i64 t622) ∧ w'.cell? ⟨g, 5, none⟩ = some (.int .i64 t623) ∧ w'.cell? (ad625.add ((t619).toNat * 6)) = some (.int .i64 ((rd_T136 s0_0 t619).f0)) ∧ w'.cell? ⟨(ad625.add ((t619).toNat * 6)).block, (ad625.add ((t619).toNat * 6)).off + 1, none⟩ = some (.int .i64 ((rd_T136 s0_0 t619).f1)) ∧ w'.cell? ⟨(ad625.add ((t619).toNat * 6)).block, (ad625.add ((t619).toNat * 6)).off + 2, none⟩ = some (.string ((rd_T136 s0_0 t619).f2)) ∧ w'.cell? ⟨(ad625.add ((t619).toNat * 6)).block, (ad625.add ((t619).toNat * 6)).off + 3, none⟩ = some (.int .i64 ((rd_T136 s0_0 t619).f3.f0)) ∧ w'.cell? ⟨(ad625.add ((t619).toNat * 6)).block, (ad625.add ((t619).toNat * 6)).off + 4, none⟩ = some (.int .i64 ((rd_T136 s0_0 t619).f3.f1)) ∧ w'.cell? ⟨(ad625.add ((t619).toNat * 6)).block, (ad625.add ((t619).toNat * 6)).off + 5, none⟩ = some (.int .i64 ((rd_T136 s0_0 t619).f4))) (ds := []) (bts0 13) (by kernel_rfl) rfl rfl ⟨Z64_0, Z64_1, Z64_2, Z64_3, Z64_4, Z64_5, (hbw HB.out hw625_0), (hbw HB.out hw625_1), (hbw HB.out hw625_2), (hbw HB.out hw625_3), (hbw HB.out hw625_4), (hbw HB.out hw625_5)⟩ (fun hHeld => ?_); refine with_tabW expr_Parser_prefix.tab21 expr_Parser_prefix.bits21 (fun HT_ HW_ => ?_)
       generalize w62.drew = w63 at HO618 BK559 BK589 BK624 HI0 HK HB hx625_0 hx625_1 hx625_2 hx625_3 hx625_4 hx625_5 hHeld ⊢
       refine pu 0 (some 102) (bts 13 1) (any_of HT_.out (by kernel_rfl)) ?_
       refine pu 1 (some 103) (bts 13 3) (any_of HT_.out (by kernel_rfl)) ?_
       refine pu 2 (some 104) (bts 13 7) (any_of HT_.out (by kernel_rfl)) ?_
       refine pu 4 (some 106) (bts 13 23) (any_of HT_.out (by kernel_rfl)) ?_
       refine pu 5 (some 107) (bts 13 55) (any_of HT_.out (by kernel_rfl)) ?_
       refine pu 6 (some 108) (bts 13 119) (any_of HT_.out (by kernel_rfl)) ?_
       refine ta 3 (some 105) (bts 13 127) (take_ofW HT_.out HW_.out (by kernel_rfl)) hHeld ?_
       refine ta 7 (some 109) (bts 13 255) (take_ofW HT_.out HW_.out (by kernel_rfl)) hHeld ?_
       refine pu 8 (some 110) (bts 13 511) (any_of HT_.out (by kernel_rfl)) ?_
       refine pu 9 (some 111) (bts 13 1023) (any_of HT_.out (by kernel_rfl)) ?_
       refine ta 10 (some 112) (bts 13 2047) (take_ofW HT_.out HW_.out (by kernel_rfl)) hHeld ?_
       refine pu 11 (some 113) (bts 13 4095) (any_of HT_.out (by kernel_rfl)) ?_
       refine one_ (i := 12) (N := none) (bts 13 8191) rfl rfl (one_of HT_.out (by kernel_rfl)) (by decide) (fun K hK => ?_)
       have hs65 : w63.cell? ⟨gb624, 6, none⟩ = some (.string t615) := (blk_cell BK624.out 6).trans rfl
       have hfs65 := blk_frozen BK624.out 6
       have hns65_0 := NB559_624.out
       have hns65_1 := NB589_624.out
       have hms65_0 := NB624_559.out
       have hms65_1 := NB624_589.out
       refine skip_ (w1 := ?_) (by rfl) rfl ?_ ?_
       rotate_left
       ·go_simp
        rfl
       refine hK.out _ _ ⟨(cf hHeld.1), (cf hHeld.2.1), (cf hHeld.2.2.1), (cf hHeld.2.2.2.1), (cf hHeld.2.2.2.2.1), (cf hHeld.2.2.2.2.2.1), (cg (nlx hw625_0 HL.out GW624.out) hHeld.2.2.2.2.2.2.1), (cg (nlx hw625_1 HL.out GW624.out) hHeld.2.2.2.2.2.2.2.1), (cg (nlx hw625_2 HL.out GW624.out) hHeld.2.2.2.2.2.2.2.2.1), (cg (nlx hw625_3 HL.out GW624.out) hHeld.2.2.2.2.2.2.2.2.2.1), (cg (nlx hw625_4 HL.out GW624.out) hHeld.2.2.2.2.2.2.2.2.2.2.1), (cg (nlx hw625_5 HL.out GW624.out) hHeld.2.2.2.2.2.2.2.2.2.2.2)⟩ (fun hHeld => ?_)
       clear hK K
       refine done_ (done_of HT_.out (by kernel_rfl)) ?_
       obtain ⟨ASz66_0, cSz66_0, HSz66_0, Z66_0, Z66_1, Z66_2, Z66_3, Z66_4, Z66_5, F66_1, F66_2, F66_3, F66_4, F66_5⟩ := open63 HI0.out
       obtain ⟨Z67_0, Z67_1, Z67_2, Z67_3, Z67_4, Z67_5, Z67_6, Z67_7, F67_0, F67_1, F67_2, F67_3, F67_4, F67_5, F67_6, F67_7⟩ := cz8 BK624.out
       have hnb68 := NB559_589.out
       have hnc68 := NB589_559.out
       have hnb69 := NB559_0.out
       have hnc69 := NB0_559.out
       obtain ⟨Z70_0, Z70_1, Z70_2, Z70_3, Z70_4, Z70_5, Z70_6, Z70_7, F70_0, F70_1, F70_2, F70_3, F70_4, F70_5, F70_6, F70_7⟩ := cz8 BK559.out
       try go_wp2
       refine bodyPost_ret (results_cell_row rfl _ _ gb559 31 #[.int .i64 t609, .int .i64 t610, .int .i64 t611, .int .i64 t612, .string t613, .int .i64 t614, .string ((rd_T136 s0_0 t619).f2), .slice Ao61 t616.length co61] (0, 0) _ rfl (bp BK559.out) Tryz.underlying31 rfl (by kernel_rfl)) rfl ?_
       exact ⟨_, az, by (with_reducible repeat (first | apply Kd.V_alloc | apply Kd.V_drewN | apply Kd.V_drew)); exact Kd.V_mono (Kd.V_far (p := ⟨gb559, 7, none⟩) (Kd.V_far (p := ⟨gb559, 6, none⟩) (Kd.V_far (p := ⟨gb559, 5, none⟩) (Kd.V_far (p := ⟨gb559, 4, none⟩) (Kd.V_far (p := ⟨gb559, 3, none⟩) (Kd.V_far (p := ⟨gb559, 2, none⟩) (Kd.V_far (p := ⟨gb559, 1, none⟩) (Kd.V_far (p := ⟨gb559, 0, none⟩) (Kd.V_far (p := ⟨g, 1, none⟩) (Kd.V_far (p := ⟨gb624, 6, none⟩) (Kd.V_mono (Kd.V_mono (Kd.V_mono HO618.out (fun k_ hk => (⟨hk, hk.2.2.2.2⟩ : _ ∧ k_ ≠ gb624))) (fun k_ hk => (⟨hk, hk.1.2.2.2.1⟩ : _ ∧ k_ ≠ g))) (fun k_ hk => (⟨hk, hk.1.1.2.1⟩ : _ ∧ k_ ≠ gb559))) (fun _ hk => hk.1.1.2) (.string ((rd_T136 s0_0 t619).f2))) (fun _ hk => hk.1.2) (.int .i64 (wrap64 (t619 + 1)))) (fun _ hk => hk.2) (.int .i64 t609)) (fun _ hk => hk.2) (.int .i64 t610)) (fun _ hk => hk.2) (.int .i64 t611)) (fun _ hk => hk.2) (.int .i64 t612)) (fun _ hk => hk.2) (.string t613)) (fun _ hk => hk.2) (.int .i64 t614)) (fun _ hk => hk.2) (.string ((rd_T136 s0_0 t619).f2))) (fun _ hk => hk.2) (.slice Ao61 t616.length co61)) (fun _ hk => hk.1.1.1.1), hz HI0.out, bz HB.out, kz HK.out⟩
      rw [if_neg c54] at H
      exact absurd H (by simp)
     rw [if_neg c53] at H
     exact absurd H (by simp)
    replace c51 := Bool.eq_false_iff.mpr c51
    subst c51
    replace H := iff_ H
    exact absurd H (by simp)
 rw [if_neg c3] at H
 exact absurd H (by simp)
end Go.Proofs.YtgkemhgihbfmmaaGreatDoor.PA
end
