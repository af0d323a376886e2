/- Part 21 of the proof for CalcSides: functions of the program as plain Lean functions, their calls, and what they come to. -/
import Derived.Deep.LoopGhost
import Derived.Test.YtgkemhgihbfmmaaGreatDoorCalcSidesK18
import Derived.Test.YtgkemhgihbfmmaaGreatDoorCalcSidesK19
import Derived.Test.YtgkemhgihbfmmaaGreatDoorCalcSidesK17
set_option linter.unusedVariables false
set_option linter.unusedSimpArgs false
section
namespace Go.Proofs.YtgkemhgihbfmmaaGreatDoor.PA
open Go.RowKit Go.Proofs.YtgkemhgihbfmmaaGreatDoorW.PrintWords Go.Proofs.YtgkemhgihbfmmaaGreatDoorW.PrintLast Go.Proofs.YtgkemhgihbfmmaaGreatDoorW.PrintMore
attribute [local go_sem] max2_int min2_int max_two min_two max_three min_three max_four min_four isSome_set str_gtr
set_option linter.unusedVariables false
set_option linter.unusedSimpArgs false
def expr_Parser_chain.T9 : Bool × List (List Nat × List Nat) := (true, [([], []), ([], []), ([], []), ([1, 2], [1, 2]), ([3], [3]), ([4], [4]), ([], []), ([5, 6], [5, 6]), ([7], [7]), ([], []), ([], []), ([], []), ([], []), ([12], [12]), ([10, 11, 13], [10, 11, 13]), ([9, 14], [9, 14]), ([0, 8, 15, 14], [0, 8, 15]), ([16, 16, 0, 1, 2, 3, 4, 5, 6, 7, 8, 9, 10, 11, 12, 13, 14, 15, 16], [16])])
def expr_Parser_chain.B9 : List Nat := [0, 0, 0, 6, 14, 30, 0, 126, 254, 0, 0, 0, 0, 4096, 15360, 32256, 65535, 131071]
theorem expr_Parser_chain.tab9 : rtab .any (opsOf Tryz.f64 9) = expr_Parser_chain.T9 := by kernel_rfl
theorem expr_Parser_chain.bits9 : waitsOk expr_Parser_chain.T9.2 expr_Parser_chain.B9 = true := by kernel_rfl
set_option maxHeartbeats 8000000 in
set_option maxRecDepth 100000 in
theorem expr_Parser_chain.step (k : Nat) (ih_expr_Parser_prefix : ∀ k', k' < k → ∀ (g : Nat) (s0_0 : List (S136)) (s0_1 s0_2 s0_3 s0_4 s0_5 a1 r1 r2 r3 r4 : Int) (r5 : ByteArray) (r6 : Int) (r7 : ByteArray) (r8 : List (S31)) (r9 r10 r11 r12 r13 : Int) (w0 w : World) (hI : IsS63 w0 w g s0_0 s0_1 s0_2 s0_3 s0_4 s0_5) (hB : Below w0.heap.size w0 w) (h : expr_Parser_prefix.f k' s0_0 s0_1 s0_2 s0_3 s0_4 s0_5 a1 = some (r1, r2, r3, r4, r5, r6, r7, r8, r9, r10, r11, r12, r13)),
  Calls Tryz.prog 109 #[.pointer (some ⟨g, 0, none⟩), .int .i64 a1] w fun e w' => ∃ v7_ : Value, e = .returned (.agg #[.int .i64 r1, .int .i64 r2, .int .i64 r3, .int .i64 r4, .string r5, .int .i64 r6, .string r7, v7_]) ∧ Kd.V k31 31 w' w.heap.size (fun k_ => (w.heap.size ≤ k_)) v7_ r8 ∧ IsS63 w0 w' g s0_0 r9 r10 r11 r12 r13 ∧ Below w0.heap.size w0 w' ∧ KeepBut w w' g none) (ih_expr_Parser_chain : ∀ k', k' < k → ∀ (g : Nat) (s0_0 : List (S136)) (s0_1 s0_2 s0_3 s0_4 s0_5 a1 a2 r1 r2 r3 r4 : Int) (r5 : ByteArray) (r6 : Int) (r7 : ByteArray) (r8 : List (S31)) (r9 r10 r11 r12 r13 : Int) (w0 w : World) (hI : IsS63 w0 w g s0_0 s0_1 s0_2 s0_3 s0_4 s0_5) (hB : Below w0.heap.size w0 w) (h : expr_Parser_chain.f k' s0_0 s0_1 s0_2 s0_3 s0_4 s0_5 a1 a2 = some (r1, r2, r3, r4, r5, r6, r7, r8, r9, r10, r11, r12, r13)),
  Calls Tryz.prog 64 #[.pointer (some ⟨g, 0, none⟩), .int .i64 a1, .int .i64 a2] w fun e w' => ∃ v7_ : Value, e = .returned (.agg #[.int .i64 r1, .int .i64 r2, .int .i64 r3, .int .i64 r4, .string r5, .int .i64 r6, .string r7, v7_]) ∧ Kd.V k31 31 w' w.heap.size (fun k_ => (w.heap.size ≤ k_)) v7_ r8 ∧ IsS63 w0 w' g s0_0 r9 r10 r11 r12 r13 ∧ Below w0.heap.size w0 w' ∧ KeepBut w w' g none) (ih_expr_Parser_Expr : ∀ k', k' < k → ∀ (g : Nat) (s0_0 : List (S136)) (s0_1 s0_2 s0_3 s0_4 s0_5 a1 r1 r2 r3 r4 : Int) (r5 : ByteArray) (r6 : Int) (r7 : ByteArray) (r8 : List (S31)) (r9 r10 r11 r12 r13 : Int) (w0 w : World) (hI : IsS63 w0 w g s0_0 s0_1 s0_2 s0_3 s0_4 s0_5) (hB : Below w0.heap.size w0 w) (h : expr_Parser_Expr.f k' s0_0 s0_1 s0_2 s0_3 s0_4 s0_5 a1 = some (r1, r2, r3, r4, r5, r6, r7, r8, r9, r10, r11, r12, r13)),
  Calls Tryz.prog 31 #[.pointer (some ⟨g, 0, none⟩), .int .i64 a1] w fun e w' => ∃ v7_ : Value, e = .returned (.agg #[.int .i64 r1, .int .i64 r2, .int .i64 r3, .int .i64 r4, .string r5, .int .i64 r6, .string r7, v7_]) ∧ Kd.V k31 31 w' w.heap.size (fun k_ => (w.heap.size ≤ k_)) v7_ r8 ∧ IsS63 w0 w' g s0_0 r9 r10 r11 r12 r13 ∧ Below w0.heap.size w0 w' ∧ KeepBut w w' g none) : ∀ (g : Nat) (s0_0 : List (S136)) (s0_1 s0_2 s0_3 s0_4 s0_5 a1 a2 r1 r2 r3 r4 : Int) (r5 : ByteArray) (r6 : Int) (r7 : ByteArray) (r8 : List (S31)) (r9 r10 r11 r12 r13 : Int) (w0 w : World) (hI : IsS63 w0 w g s0_0 s0_1 s0_2 s0_3 s0_4 s0_5) (hB : Below w0.heap.size w0 w) (h : expr_Parser_chain.f k s0_0 s0_1 s0_2 s0_3 s0_4 s0_5 a1 a2 = some (r1, r2, r3, r4, r5, r6, r7, r8, r9, r10, r11, r12, r13)),
  Calls Tryz.prog 64 #[.pointer (some ⟨g, 0, none⟩), .int .i64 a1, .int .i64 a2] w fun e w' => ∃ v7_ : Value, e = .returned (.agg #[.int .i64 r1, .int .i64 r2, .int .i64 r3, .int .i64 r4, .string r5, .int .i64 r6, .string r7, v7_]) ∧ Kd.V k31 31 w' w.heap.size (fun k_ => (w.heap.size ≤ k_)) v7_ r8 ∧ IsS63 w0 w' g s0_0 r9 r10 r11 r12 r13 ∧ Below w0.heap.size w0 w' ∧ KeepBut w w' g none := by
 intro g s0_0 s0_1 s0_2 s0_3 s0_4 s0_5 a1 a2 r1 r2 r3 r4 r5 r6 r7 r8 r9 r10 r11 r12 r13 w0 w hI hB h
 cases k with
 | zero => exact absurd h (by simp [expr_Parser_chain.f])
 | succ k =>
 simp only [expr_Parser_chain.f] at h
 have hu31 := Tryz.underlying31
 have HI0 := am hI
 have HK := am (KeepBut.refl w g none)
 have HL := am hB.size
 clear hI
 have HW0 := am hB.size
 have HB := am hB
 clear hB
 have H : ((expr_levels.f).bind fun t757 => (if a2 > 4 then ((expr_Parser_prefix.f k s0_0 s0_1 s0_2 s0_3 s0_4 s0_5 a1).bind fun bt760 => (some (bt760.1, bt760.2.1, bt760.2.2.1, bt760.2.2.2.1, bt760.2.2.2.2.1, bt760.2.2.2.2.2.1, bt760.2.2.2.2.2.2.1, bt760.2.2.2.2.2.2.2.1, bt760.2.2.2.2.2.2.2.2.1, bt760.2.2.2.2.2.2.2.2.2.1, bt760.2.2.2.2.2.2.2.2.2.2.1, bt760.2.2.2.2.2.2.2.2.2.2.2.1, bt760.2.2.2.2.2.2.2.2.2.2.2.2))) else ((expr_Parser_chain.f k s0_0 s0_1 s0_2 s0_3 s0_4 s0_5 a1 (wrap64 (a2 + 1))).bind fun bt775 => (expr_Parser_chain.l0 k a1 a2 t757 s0_0 bt775.2.2.2.2.2.2.2.2.1 bt775.2.2.2.2.2.2.2.2.2.1 bt775.2.2.2.2.2.2.2.2.2.2.1 bt775.2.2.2.2.2.2.2.2.2.2.2.1 bt775.2.2.2.2.2.2.2.2.2.2.2.2 bt775.1 bt775.2.1 bt775.2.2.1 bt775.2.2.2.1 bt775.2.2.2.2.1 bt775.2.2.2.2.2.1 bt775.2.2.2.2.2.2.1 bt775.2.2.2.2.2.2.2.1)))) = some (r1, r2, r3, r4, r5, r6, r7, r8, r9, r10, r11, r12, r13) := h
 clear h
 replace H := obe H
 obtain ⟨t757, A4, H⟩ := H
 have HC5 := am H
 clear H
 go_enter Tryz.func64, Tryz.ntmps64
 go_upto_if 12 with (first | ((with_reducible refine gate_dst (N := 6) rfl ?_); refine bev (#[.int .i64 0, .int .i64 0, .int .i64 0, .int .i64 0, .string (⟨#[]⟩ : ByteArray), .int .i64 0, .string (⟨#[]⟩ : ByteArray), .slice none 0 0]) 31 ?_; intro gb756 hg w6 hbox hb; replace HB := sb HB hb; have BK756 := am (hbox); have GW756 := gk hg HK; have GE756 := am (Nat.le_trans HW0.out GW756.out); replace HK := am (KeepBut.trans (kz HK.out) (KeepBut.of_below hb g none) (.inl rfl)); have NB0_756 := am ((nlt (a := g) hg (IsS63.lt (show IsS63 w0 _ g s0_0 s0_1 s0_2 s0_3 s0_4 s0_5 from hz HI0.out)))); have NB756_0 := am ((ngt (a := g) hg (IsS63.lt (show IsS63 w0 _ g s0_0 s0_1 s0_2 s0_3 s0_4 s0_5 from hz HI0.out)))); replace HI0 := am (IsS63.below (hz HI0.out) hb); clear hb hbox hg) | ((with_reducible refine gate_callee (f := 108) rfl ?_); refine gl_ (some 10) Tryz.func108 (by kernel_rfl) #[] rfl ?_; (with_reducible refine (expr_levels.calls  t757 _ A4.out).mono ?_); rintro e w7 ⟨v758, rfl, ho0, hb⟩; refine ⟨_, rfl, ?_⟩; have HO759 := am (Kd.N_lower (Kd.N_mono (ok' := fun k_ => (w.heap.size ≤ k_) ∧ k_ ≠ gb756 ∧ k_ ≠ g) ho0 (fun k_ hk_ => ⟨(Nat.le_trans (keep_size (w := w) (g := g) (row := none) (kz HK.out)) hk_), (Kd.freshB (bk BK756.out) k_ hk_), (IsS63.fresh (hz HI0.out) k_ hk_)⟩)) (keep_size (w := w) (g := g) (row := none) (kz HK.out))); replace BK756 := kb BK756 hb; replace HK := am (KeepBut.trans (kz HK.out) (KeepBut.of_below hb g none) (.inl rfl)); replace HB := sb HB hb; replace HI0 := am (IsS63.below (hz HI0.out) hb); clear hb ho0))
 (try simp only [Act.put, List.setIfInBounds_toArray, List.set_cons_zero, List.set_cons_succ])
 have H := HC5.out
 clear HC5
 by_cases c8 : a2 > 4
 ·rw [if_pos c8] at H
  have c8b0 : decide (4 < a2) = true := decide_eq_true c8
  clear c8
  (first | rw [c8b0] | (simp only [i64_w, i32_w]; rw [c8b0]) | skip)
  replace H := obe13 H
  obtain ⟨t760, t761, t762, t763, t764, t765, t766, t767, t770, t771, t772, t773, t774, A9, H⟩ := H
  simp only [Option.some.injEq, Prod.mk.injEq] at H
  obtain ⟨rfl, rfl, rfl, rfl, rfl, rfl, rfl, rfl, rfl, rfl, rfl, rfl, rfl⟩ := H
  go_wp2_with (first | ((with_reducible refine gate_callee (f := 109) rfl ?_); refine gl_ (some 15) Tryz.func109 (by kernel_rfl) #[.pointer (some ⟨g, 0, none⟩), .int .i64 a1] rfl ?_; (with_reducible refine (ih_expr_Parser_prefix k (by omega) g s0_0 s0_1 s0_2 s0_3 s0_4 s0_5 a1 t760 t761 t762 t763 t764 t765 t766 t767 t770 t771 t772 t773 t774 w0 _ ?side1 ?side2 A9.out).mono ?_); (case side1 => exact hz HI0.out); (case side2 => exact bz HB.out); rintro e w10 ⟨v768, rfl, ho0, hi, hb, hk⟩; refine ⟨_, rfl, ?_⟩; have HO769 := am (Kd.V_lower (Kd.V_mono (ok' := fun k_ => (w.heap.size ≤ k_) ∧ some k_ ≠ (v758 : Value).ownBlock ∧ k_ ≠ gb756 ∧ k_ ≠ g) ho0 (fun k_ hk_ => ⟨(Nat.le_trans (keep_size (w := w) (g := g) (row := none) (kz HK.out)) hk_), (Kd.fresh' (Kd.N_lt (nn HO759.out)) k_ hk_), (Kd.freshB (bk BK756.out) k_ hk_), (IsS63.fresh (hz HI0.out) k_ hk_)⟩)) (keep_size (w := w) (g := g) (row := none) (kz HK.out))); replace BK756 := am (KeepBut.blk hk (bk BK756.out) NB756_0.out (by simp)); replace HO759 := am (Kd.N_mono (Kd.N_keep (Kd.N_mono (ok := fun k_ => (((w.heap.size ≤ k_)) ∧ (k_ ≠ gb756 ∧ k_ ≠ g))) (nn HO759.out) (fun k_ hk_ => (⟨hk_, hk_.2.2⟩ : _ ∧ k_ ≠ g))) hk (fun _ h => h.2)) (fun _ h => h.1)); replace HK := am (KeepBut.trans (kz HK.out) hk (.inl rfl)); replace HB := am (hb); replace HI0 := am (hi); clear hb hk hi ho0; have hnb11 := NB756_0.out; have hnc11 := NB0_756.out; obtain ⟨Z12_0, Z12_1, Z12_2, Z12_3, Z12_4, Z12_5, Z12_6, Z12_7, F12_0, F12_1, F12_2, F12_3, F12_4, F12_5, F12_6, F12_7⟩ := cz8 BK756.out; obtain ⟨Ao13, co13, eo13⟩ := Kd.V_slice HO769.out; subst eo13))
  refine bodyPost_ret (results_cell_row rfl _ _ gb756 31 #[.int .i64 t760, .int .i64 t761, .int .i64 t762, .int .i64 t763, .string t764, .int .i64 t765, .string t766, .slice Ao13 t767.length co13] (0, 0) _ rfl (bp BK756.out) Tryz.underlying31 rfl (by kernel_rfl)) rfl ?_
  exact ⟨_, az, by (with_reducible repeat (first | apply Kd.V_alloc | apply Kd.V_drewN | apply Kd.V_drew)); exact Kd.V_mono (Kd.V_far (p := ⟨gb756, 7, none⟩) (Kd.V_far (p := ⟨gb756, 6, none⟩) (Kd.V_far (p := ⟨gb756, 5, none⟩) (Kd.V_far (p := ⟨gb756, 4, none⟩) (Kd.V_far (p := ⟨gb756, 3, none⟩) (Kd.V_far (p := ⟨gb756, 2, none⟩) (Kd.V_far (p := ⟨gb756, 1, none⟩) (Kd.V_far (p := ⟨gb756, 0, none⟩) (Kd.V_mono HO769.out (fun k_ hk => (⟨hk, hk.2.2.1⟩ : _ ∧ k_ ≠ gb756))) (fun _ hk => hk.2) (.int .i64 t760)) (fun _ hk => hk.2) (.int .i64 t761)) (fun _ hk => hk.2) (.int .i64 t762)) (fun _ hk => hk.2) (.int .i64 t763)) (fun _ hk => hk.2) (.string t764)) (fun _ hk => hk.2) (.int .i64 t765)) (fun _ hk => hk.2) (.string t766)) (fun _ hk => hk.2) (.slice Ao13 t767.length co13)) (fun _ hk => hk.1.1), hz HI0.out, bz HB.out, kz HK.out⟩
 rw [if_neg c8] at H
 have c8b0 : decide (4 < a2) = false := decide_eq_false c8
 clear c8
 (first | rw [c8b0] | (simp only [i64_w, i32_w]; rw [c8b0]) | skip)
 replace H := obe13 H
 obtain ⟨t775, t776, t777, t778, t779, t780, t781, t782, t785, t786, t787, t788, t789, A14, H⟩ := H
 have H' := am H
 clear H
 go_wp2_with (first | ((with_reducible refine gate_callee (f := 64) rfl ?_); refine gl_ (some 20) Tryz.func64 (by kernel_rfl) #[.pointer (some ⟨g, 0, none⟩), .int .i64 a1, .int .i64 (wrap64 (a2 + 1))] rfl ?_; (with_reducible refine (ih_expr_Parser_chain k (by omega) g s0_0 s0_1 s0_2 s0_3 s0_4 s0_5 a1 (wrap64 (a2 + 1)) t775 t776 t777 t778 t779 t780 t781 t782 t785 t786 t787 t788 t789 w0 _ ?side1 ?side2 A14.out).mono ?_); (case side1 => exact hz HI0.out); (case side2 => exact bz HB.out); rintro e w15 ⟨v783, rfl, ho0, hi, hb, hk⟩; refine ⟨_, rfl, ?_⟩; have HO784 := am (Kd.V_lower (Kd.V_mono (ok' := fun k_ => (w.heap.size ≤ k_) ∧ some k_ ≠ (v758 : Value).ownBlock ∧ k_ ≠ gb756 ∧ k_ ≠ g) ho0 (fun k_ hk_ => ⟨(Nat.le_trans (keep_size (w := w) (g := g) (row := none) (kz HK.out)) hk_), (Kd.fresh' (Kd.N_lt (nn HO759.out)) k_ hk_), (Kd.freshB (bk BK756.out) k_ hk_), (IsS63.fresh (hz HI0.out) k_ hk_)⟩)) (keep_size (w := w) (g := g) (row := none) (kz HK.out))); replace BK756 := am (KeepBut.blk hk (bk BK756.out) NB756_0.out (by simp)); replace HO759 := am (Kd.N_mono (Kd.N_keep (Kd.N_mono (ok := fun k_ => (((w.heap.size ≤ k_)) ∧ (k_ ≠ gb756 ∧ k_ ≠ g))) (nn HO759.out) (fun k_ hk_ => (⟨hk_, hk_.2.2⟩ : _ ∧ k_ ≠ g))) hk (fun _ h => h.2)) (fun _ h => h.1)); replace HK := am (KeepBut.trans (kz HK.out) hk (.inl rfl)); replace HB := am (hb); replace HI0 := am (hi); clear hb hk hi ho0) | ((with_reducible refine gate_dst (N := 8) rfl ?_); refine bev (#[.int .i64 0, .int .i64 0, .int .i64 0, .int .i64 0, .string (⟨#[]⟩ : ByteArray), .int .i64 0, .string (⟨#[]⟩ : ByteArray), .slice none 0 0]) 31 ?_; intro gb790 hg w16 hbox hb; replace HO759 := am (Kd.N_below (Kd.N_elderB (nn HO759.out) gb790 (Nat.le_of_eq hg.symm)) hb); replace HO784 := am (Kd.V_below (Kd.V_elderB (vv HO784.out) gb790 (Nat.le_of_eq hg.symm)) hb); replace HB := sb HB hb; have BK790 := am (hbox); have GW790 := gk hg HK; have GE790 := am (Nat.le_trans HW0.out GW790.out); replace HK := am (KeepBut.trans (kz HK.out) (KeepBut.of_below hb g none) (.inl rfl)); have NB756_790 := na hg BK756; have NB790_756 := nb hg BK756; replace BK756 := kb BK756 hb; have NB0_790 := am ((nlt (a := g) hg (IsS63.lt (show IsS63 w0 _ g s0_0 t785 t786 t787 t788 t789 from hz HI0.out)))); have NB790_0 := am ((ngt (a := g) hg (IsS63.lt (show IsS63 w0 _ g s0_0 t785 t786 t787 t788 t789 from hz HI0.out)))); replace HI0 := am (IsS63.below (hz HI0.out) hb); clear hb hbox hg; have hnb17 := NB790_756.out; have hnc17 := NB756_790.out; have hnb18 := NB790_0.out; have hnc18 := NB0_790.out; obtain ⟨Z19_0, Z19_1, Z19_2, Z19_3, Z19_4, Z19_5, Z19_6, Z19_7, F19_0, F19_1, F19_2, F19_3, F19_4, F19_5, F19_6, F19_7⟩ := cz8 BK790.out; obtain ⟨Ao20, co20, eo20⟩ := Kd.V_slice HO784.out; subst eo20))
 (try simp only [Act.put, List.setIfInBounds_toArray, List.set_cons_succ, List.set_cons_zero])
 go_loopg [] k (fun kq w' => ∃ (x1001_1 x1002_1 x1003_1 x1004_1 x1005_1 x791000_1 x791001_1 x791002_1 x791003_1 : Int) (x791004_1 : ByteArray) (x791005_1 : Int) (x791006_1 : ByteArray) (x791007_1 : List (S31)) (u791007 : Value), Aside0 (expr_Parser_chain.l0 kq a1 a2 t757 s0_0 x1001_1 x1002_1 x1003_1 x1004_1 x1005_1 x791000_1 x791001_1 x791002_1 x791003_1 x791004_1 x791005_1 x791006_1 x791007_1 = some (r1, r2, r3, r4, r5, r6, r7, r8, r9, r10, r11, r12, r13)) ∧ Aside0 (kq ≤ k) ∧ Aside0 (Kd.N k143 143 w' w.heap.size (fun k_ => (w.heap.size ≤ k_) ∧ k_ ≠ gb756 ∧ k_ ≠ gb790 ∧ k_ ≠ g) v758 t757) ∧ Aside0 (Kd.V k31 31 w' w.heap.size (fun k_ => (w.heap.size ≤ k_) ∧ some k_ ≠ (v758 : Value).ownBlock ∧ k_ ≠ gb756 ∧ k_ ≠ gb790 ∧ k_ ≠ g) u791007 x791007_1) ∧ Aside0 (w'.heap[gb756]? = some (.cells #[.int .i64 0, .int .i64 0, .int .i64 0, .int .i64 0, .string (⟨#[]⟩ : ByteArray), .int .i64 0, .string (⟨#[]⟩ : ByteArray), (.slice none 0 0)] 31 (0, 0))) ∧ Aside0 (w'.heap[gb790]? = some (.cells #[.int .i64 x791000_1, .int .i64 x791001_1, .int .i64 x791002_1, .int .i64 x791003_1, .string x791004_1, .int .i64 x791005_1, .string x791006_1, u791007] 31 (0, 0))) ∧ Aside0 (IsS63 w0 w' g s0_0 x1001_1 x1002_1 x1003_1 x1004_1 x1005_1) ∧ Aside0 (KeepBut w w' g none) ∧ Aside0 (Below w0.heap.size w0 w'))
 case atStart => exact ⟨(t785), (t786), (t787), (t788), (t789), (t775), (t776), (t777), (t778), (t779), (t780), (t781), (t782), (.slice Ao20 t782.length co20), H', ⟨Nat.le_refl _⟩, ⟨vfN HO759.out⟩, ⟨vfV HO784.out⟩, ⟨bp BK756.out⟩, ⟨bp BK790.out⟩, ⟨hz HI0.out⟩, ⟨kz HK.out⟩, ⟨bz HB.out⟩⟩
 case round =>
  clear H'
  try clear c8; try clear c8b0; try clear Z12_0; try clear Z12_1; try clear Z12_2; try clear Z12_3; try clear Z12_4; try clear Z12_5; try clear Z12_6; try clear Z12_7; try clear Z19_0; try clear Z19_1; try clear Z19_2; try clear Z19_3; try clear Z19_4; try clear Z19_5; try clear Z19_6; try clear Z19_7; try clear F12_0; try clear F12_1; try clear F12_2; try clear F12_3; try clear F12_4; try clear F12_5; try clear F12_6; try clear F12_7; try clear F19_0; try clear F19_1; try clear F19_2; try clear F19_3; try clear F19_4; try clear F19_5; try clear F19_6; try clear F19_7
  obtain ⟨x1001_1, x1002_1, x1003_1, x1004_1, x1005_1, x791000_1, x791001_1, x791002_1, x791003_1, x791004_1, x791005_1, x791006_1, x791007_1, u791007, HA, HK1, HO_7, HO_791007, BK756, BK790, HI0, HK, HB⟩ := hrel
  cases gk with
  | zero => exact absurd HA.out (by simp [expr_Parser_chain.l0])
  | succ k1 =>
   have H := HA.out
   clear HA
   simp only [expr_Parser_chain.l0] at H
   by_cases c21 : x1004_1 = 0
   ·replace H := ipe c21 H
    obtain ⟨H, c21b0, c21b1⟩ := H
    clear c21
    by_cases c22 : 0 ≤ a2
    ·rw [if_pos c22] at H
     have c22b0 : decide (0 ≤ a2) = true := decide_eq_true c22
     clear c22
     by_cases c23 : a2 < (t757.length : Int)
     ·rw [if_pos c23] at H
      have c23b0 : decide (a2 < (t757.length : Int)) = true := decide_eq_true c23
      clear c23
      replace H := obe6 H
      obtain ⟨t792, t793, t794, t795, t796, t797, A24, H⟩ := H
      have HC25 := am H
      clear H
      obtain ⟨ASz26_0, cSz26_0, HSz26_0, Z26_0, Z26_1, Z26_2, Z26_3, Z26_4, Z26_5, F26_1, F26_2, F26_3, F26_4, F26_5⟩ := open63 HI0.out
      obtain ⟨Ao27, co27, eo27⟩ := Kd.N_slice HO_7.out
      subst eo27
      have p791 : 0 ≤ (a2 : Int) := of_decide_eq_true tz
      have q791 : a2 < (t757.length : Int) := of_decide_eq_true tz
      obtain ⟨ad791, A791_0, c791_0, A791_1, c791_1, e791, hx791_0, hx791_1, hx791_2, hl791_0, hi791_0, hl791_1, hi791_1⟩ := at_T143 (Kd.N_reads' HO_7.out).2.2 a2 p791 q791
      cases e791
      obtain ⟨ce791, hce791, hMe791, hcc791⟩ := Kd.N_get HO_7.out z143 a2 p791 (by first | exact q791 | exact of_decide_eq_true tz | (have e_ := (Kd.N_reads' HO_7.out).1; omega))
      obtain ⟨ua791_0, uc791_0, ua791_1, uc791_1, rfl, ul791_0, ge791_0, ul791_1, ge791_1⟩ := k143_openF hMe791
      have hv791_0 := hcc791 0 _ rfl
      rw [Nat.add_zero] at hv791_0
      replace hv791_0 := Option.some.inj (hv791_0.symm.trans hx791_0)
      injection hv791_0 with hva_ hvn_ hvc_
      rw [hva_] at ge791_0
      rw [hvc_] at ul791_0
      have HL791_0 := am (show Kd.V Kd.string 9 _ w.heap.size _ _ ((rd_T143 t757 a2).f0) from Kd.V_mk ul791_0 ge791_0)
      clear hva_ hvn_ hvc_ ge791_0 ul791_0
      have hv791_1 := hcc791 1 _ rfl
      rw [add_field _ _ 1 (by omega)] at hv791_1
      replace hv791_1 := Option.some.inj (hv791_1.symm.trans hx791_1)
      injection hv791_1 with hva_ hvn_ hvc_
      rw [hva_] at ge791_1
      rw [hvc_] at ul791_1
      have HL791_1 := am (show Kd.V (Kd.int .i64) 3 _ w.heap.size _ _ ((rd_T143 t757 a2).f1) from Kd.V_mk ul791_1 ge791_1)
      clear hva_ hvn_ hvc_ ge791_1 ul791_1 hcc791 hce791
      have HR791_0 := am hi791_0
      have HC791_0 := am hl791_0
      clear hi791_0 hl791_0
      have HR791_1 := am hi791_1
      have HC791_1 := am hl791_1
      clear hi791_1 hl791_1
      replace p791 := eq_true p791
      replace q791 := eq_true q791
      go_upto_if 35 with (first | ((with_reducible refine gate_callee (f := 110) rfl ?_); refine gl_ (some 33) Tryz.func110 (by kernel_rfl) #[.slice A791_0 ((rd_T143 t757 a2).f0).length c791_0, .func (.func 107) #[.pointer (some ⟨g, 0, none⟩)] #[]] rfl ?_; (with_reducible refine (standin_IndexIs.calls k1 _ _ ((rd_T143 t757 a2).f0) g s0_0 x1001_1 x1002_1 x1003_1 x1004_1 x1005_1 t792 t793 t794 t795 t796 t797 w0 _ ?side1 ?side2 ?side3 ?side4 A24.out).mono ?_); (case side1 => exact hz HI0.out); (case side2 => exact bz HB.out); (case side3 => repeat (first | exact (by repeat (first | (with_reducible exact HR791_0.out) | (with_reducible refine Kd.C_alloc ?_ _) | (with_reducible refine Kd.C_drewN ?_ _) | (with_reducible refine Kd.C_drew ?_) | exact HR791_0.out)) | (with_reducible refine Kd.C_alloc ?_ _) | (with_reducible refine Kd.C_drewN ?_ _) | (with_reducible refine Kd.C_drew ?_))); (case side4 => exact HC791_0.out); rintro e w28 ⟨rfl, hi, hb, hk⟩; refine ⟨_, rfl, ?_⟩; replace HO_7 := am (Kd.N_mono (Kd.N_keep (Kd.N_mono (ok := fun k_ => (((w.heap.size ≤ k_)) ∧ (k_ ≠ gb756 ∧ (k_ ≠ gb790 ∧ k_ ≠ g)))) (nn HO_7.out) (fun k_ hk_ => (⟨hk_, hk_.2.2.2⟩ : _ ∧ k_ ≠ g))) hk (fun _ h => h.2)) (fun _ h => h.1)); replace HO_791007 := am (Kd.V_mono (Kd.V_keep (Kd.V_mono (ok := fun k_ => (((w.heap.size ≤ k_)) ∧ (some k_ ≠ (.slice (some ad791) t757.length co27 : Value).ownBlock ∧ (k_ ≠ gb756 ∧ (k_ ≠ gb790 ∧ k_ ≠ g))))) (vv HO_791007.out) (fun k_ hk_ => (⟨hk_, hk_.2.2.2.2⟩ : _ ∧ k_ ≠ g))) hk (fun _ h => h.2)) (fun _ h => h.1)); replace BK756 := am (KeepBut.blk hk (bk BK756.out) NB756_0.out (by simp)); replace BK790 := am (KeepBut.blk hk (bk BK790.out) NB790_0.out (by simp)); replace HL791_0 := am (Kd.V_mono (Kd.V_keep (Kd.V_mono (ok := fun k_ => ((((w.heap.size ≤ k_)) ∧ (k_ ≠ gb756 ∧ (k_ ≠ gb790 ∧ k_ ≠ g))) ∧ some k_ ≠ (.slice (some ad791) t757.length co27 : Value).ownBlock)) (vv HL791_0.out) (fun k_ hk_ => (⟨hk_, hk_.1.2.2.2⟩ : _ ∧ k_ ≠ g))) hk (fun _ h => h.2)) (fun _ h => h.1)); replace HL791_1 := am (Kd.V_mono (Kd.V_keep (Kd.V_mono (ok := fun k_ => ((((w.heap.size ≤ k_)) ∧ (k_ ≠ gb756 ∧ (k_ ≠ gb790 ∧ k_ ≠ g))) ∧ some k_ ≠ (.slice (some ad791) t757.length co27 : Value).ownBlock)) (vv HL791_1.out) (fun k_ hk_ => (⟨hk_, hk_.1.2.2.2⟩ : _ ∧ k_ ≠ g))) hk (fun _ h => h.2)) (fun _ h => h.1)); replace HK := am (KeepBut.trans (kz HK.out) hk (.inl rfl)); replace HB := am (hb); replace HI0 := am (hi); clear hb hk hi))
      (try simp only [Act.put, List.setIfInBounds_toArray, List.set_cons_zero, List.set_cons_succ])
      have H := HC25.out
      clear HC25
      clear Z26_0 Z26_1 Z26_2 Z26_3 Z26_4 Z26_5 F26_1 F26_2 F26_3 F26_4 F26_5 hx791_0 hx791_1 hx791_2
      by_cases c29 : t792 < 0
      ·rw [if_pos c29] at H
       have c29b0 : decide (t792 < 0) = true := decide_eq_true c29
       clear c29
       (first | rw [c29b0] | (simp only [i64_w, i32_w]; rw [c29b0]) | skip)
       simp only [Option.some.injEq, Prod.mk.injEq] at H
       obtain ⟨rfl, rfl, rfl, rfl, rfl, rfl, rfl, rfl, rfl, rfl, rfl, rfl, rfl⟩ := H
       have hnb30 := NB790_756.out
       have hnc30 := NB756_790.out
       have hnb31 := NB790_0.out
       have hnc31 := NB0_790.out
       obtain ⟨Z32_0, Z32_1, Z32_2, Z32_3, Z32_4, Z32_5, Z32_6, Z32_7, F32_0, F32_1, F32_2, F32_3, F32_4, F32_5, F32_6, F32_7⟩ := cz8 BK790.out
       have hnb33 := NB756_0.out
       have hnc33 := NB0_756.out
       obtain ⟨Z34_0, Z34_1, Z34_2, Z34_3, Z34_4, Z34_5, Z34_6, Z34_7, F34_0, F34_1, F34_2, F34_3, F34_4, F34_5, F34_6, F34_7⟩ := cz8 BK756.out
       obtain ⟨Ao35, co35, eo35⟩ := Kd.V_slice HO_791007.out
       subst eo35
       go_wp2
       refine bodyPost_ret (results_cell_row rfl _ _ gb756 31 #[.int .i64 x791000_1, .int .i64 x791001_1, .int .i64 x791002_1, .int .i64 x791003_1, .string x791004_1, .int .i64 x791005_1, .string x791006_1, .slice Ao35 x791007_1.length co35] (0, 0) _ rfl (bp BK756.out) Tryz.underlying31 rfl (by kernel_rfl)) rfl ?_
       exact ⟨_, az, by (with_reducible repeat (first | apply Kd.V_alloc | apply Kd.V_drewN | apply Kd.V_drew)); exact Kd.V_mono (Kd.V_far (p := ⟨gb756, 7, none⟩) (Kd.V_far (p := ⟨gb756, 6, none⟩) (Kd.V_far (p := ⟨gb756, 5, none⟩) (Kd.V_far (p := ⟨gb756, 4, none⟩) (Kd.V_far (p := ⟨gb756, 3, none⟩) (Kd.V_far (p := ⟨gb756, 2, none⟩) (Kd.V_far (p := ⟨gb756, 1, none⟩) (Kd.V_far (p := ⟨gb756, 0, none⟩) (Kd.V_mono HO_791007.out (fun k_ hk => (⟨hk, hk.2.2.1⟩ : _ ∧ k_ ≠ gb756))) (fun _ hk => hk.2) (.int .i64 x791000_1)) (fun _ hk => hk.2) (.int .i64 x791001_1)) (fun _ hk => hk.2) (.int .i64 x791002_1)) (fun _ hk => hk.2) (.int .i64 x791003_1)) (fun _ hk => hk.2) (.string x791004_1)) (fun _ hk => hk.2) (.int .i64 x791005_1)) (fun _ hk => hk.2) (.string x791006_1)) (fun _ hk => hk.2) (.slice Ao35 x791007_1.length co35)) (fun _ hk => hk.1.1), hz HI0.out, bz HB.out, kz HK.out⟩
      rw [if_neg c29] at H
      have c29b0 : decide (t792 < 0) = false := decide_eq_false c29
      clear c29
      (first | rw [c29b0] | (simp only [i64_w, i32_w]; rw [c29b0]) | skip)
      by_cases c36 : 0 ≤ t792
      ·rw [if_pos c36] at H
       have c36b0 : decide (0 ≤ t792) = true := decide_eq_true c36
       clear c36
       by_cases c37 : t792 < (((rd_T143 t757 a2).f1).length : Int)
       ·rw [if_pos c37] at H
        have c37b0 : decide (t792 < (((rd_T143 t757 a2).f1).length : Int)) = true := decide_eq_true c37
        clear c37
        replace H := obe13 H
        obtain ⟨t800, t801, t802, t803, t804, t805, t806, t807, t810, t811, t812, t813, t814, A38, H⟩ := H
        obtain ⟨y815, hy815⟩ : ∃ y_ : List (S31), y_ = (([(⟨x791000_1, (⟨x791001_1, (⟨x791002_1, x791003_1⟩ : S23), x791004_1, x791005_1⟩ : S25), x791006_1, x791007_1⟩ : S31), (⟨t800, (⟨t801, (⟨t802, t803⟩ : S23), t804, t805⟩ : S25), t806, t807⟩ : S31)] : List (S31))) := ⟨_, rfl⟩
        replace H : ((expr_Parser_make.f s0_0 t810 t811 t812 t813 t814 (rd ((rd_T143 t757 a2).f1) t792) y815).bind fun bt818 => (if (rd_T143 t757 a2).f2 = true then (some (bt818.1, bt818.2.1, bt818.2.2.1, bt818.2.2.2.1, bt818.2.2.2.2.1, bt818.2.2.2.2.2.1, bt818.2.2.2.2.2.2.1, bt818.2.2.2.2.2.2.2.1, bt818.2.2.2.2.2.2.2.2.1, bt818.2.2.2.2.2.2.2.2.2.1, bt818.2.2.2.2.2.2.2.2.2.2.1, bt818.2.2.2.2.2.2.2.2.2.2.2.1, bt818.2.2.2.2.2.2.2.2.2.2.2.2)) else (expr_Parser_chain.l0 k1 a1 a2 t757 s0_0 bt818.2.2.2.2.2.2.2.2.1 bt818.2.2.2.2.2.2.2.2.2.1 bt818.2.2.2.2.2.2.2.2.2.2.1 bt818.2.2.2.2.2.2.2.2.2.2.2.1 bt818.2.2.2.2.2.2.2.2.2.2.2.2 bt818.1 bt818.2.1 bt818.2.2.1 bt818.2.2.2.1 bt818.2.2.2.2.1 bt818.2.2.2.2.2.1 bt818.2.2.2.2.2.2.1 bt818.2.2.2.2.2.2.2.1))) = some (r1, r2, r3, r4, r5, r6, r7, r8, r9, r10, r11, r12, r13) := by first | (rw [hy815]; with_reducible exact H) | (have H2_ := (Option.bind_some _ _).symm.trans H; rw [hy815]; with_reducible exact H2_) | (have H2_ := (Option.bind_some _ _).symm.trans H; with_reducible exact H2_) | with_reducible exact H | (rw [hy815]; exact H) | exact H
        have Ny815 := am hy815
        clear hy815
        replace H := obe13 H
        obtain ⟨t818, t819, t820, t821, t822, t823, t824, t825, t828, t829, t830, t831, t832, A39, H⟩ := H
        have HC40 := am H
        clear H
        obtain ⟨ASz41_0, cSz41_0, HSz41_0, Z41_0, Z41_1, Z41_2, Z41_3, Z41_4, Z41_5, F41_1, F41_2, F41_3, F41_4, F41_5⟩ := open63 HI0.out
        try go_wp2
        have n0_ : Aside0 (Kd.N k143 143 (w28.setCell ⟨g, 1, none⟩ (.int .i64 (wrap64 (t793 + 1)))) w.heap.size (fun k_ => (w.heap.size ≤ k_) ∧ k_ ≠ gb756 ∧ k_ ≠ gb790 ∧ k_ ≠ g) (.slice (some ad791) t757.length co27) t757) := ⟨vfN HO_7.out⟩
        have n1_ : Aside0 (Kd.V k31 31 (w28.setCell ⟨g, 1, none⟩ (.int .i64 (wrap64 (t793 + 1)))) w.heap.size (fun k_ => (w.heap.size ≤ k_) ∧ some k_ ≠ (.slice (some ad791) t757.length co27 : Value).ownBlock ∧ k_ ≠ gb756 ∧ k_ ≠ gb790 ∧ k_ ≠ g) u791007 x791007_1) := ⟨vfV HO_791007.out⟩
        have n2_ : Aside0 (Kd.V Kd.string 9 (w28.setCell ⟨g, 1, none⟩ (.int .i64 (wrap64 (t793 + 1)))) w.heap.size (fun k_ => (w.heap.size ≤ k_) ∧ some k_ ≠ (.slice (some ad791) t757.length co27 : Value).ownBlock ∧ k_ ≠ gb756 ∧ k_ ≠ gb790 ∧ k_ ≠ g) (.slice A791_0 ((rd_T143 t757 a2).f0).length c791_0) ((rd_T143 t757 a2).f0)) := ⟨vfV (Kd.V_mono HL791_0.out (fun k_ hk => (⟨hk, hk.1.2.2.2⟩ : _ ∧ k_ ≠ g)))⟩
        have n3_ : Aside0 (Kd.V (Kd.int .i64) 3 (w28.setCell ⟨g, 1, none⟩ (.int .i64 (wrap64 (t793 + 1)))) w.heap.size (fun k_ => (w.heap.size ≤ k_) ∧ some k_ ≠ (.slice (some ad791) t757.length co27 : Value).ownBlock ∧ k_ ≠ gb756 ∧ k_ ≠ gb790 ∧ k_ ≠ g) (.slice A791_1 ((rd_T143 t757 a2).f1).length c791_1) ((rd_T143 t757 a2).f1)) := ⟨vfV (Kd.V_mono HL791_1.out (fun k_ hk => (⟨hk, hk.1.2.2.2⟩ : _ ∧ k_ ≠ g)))⟩
        have n4_ : Aside0 ((w28.setCell ⟨g, 1, none⟩ (.int .i64 (wrap64 (t793 + 1)))).heap[gb756]? = some (.cells #[.int .i64 0, .int .i64 0, .int .i64 0, .int .i64 0, .string (⟨#[]⟩ : ByteArray), .int .i64 0, .string (⟨#[]⟩ : ByteArray), .slice none 0 0] 31 (0, 0))) := ⟨bp BK756.out⟩
        have n5_ : Aside0 ((w28.setCell ⟨g, 1, none⟩ (.int .i64 (wrap64 (t793 + 1)))).heap[gb790]? = some (.cells #[.int .i64 x791000_1, .int .i64 x791001_1, .int .i64 x791002_1, .int .i64 x791003_1, .string x791004_1, .int .i64 x791005_1, .string x791006_1, u791007] 31 (0, 0))) := ⟨bp BK790.out⟩
        have n6_ : Aside0 (IsS63 w0 (w28.setCell ⟨g, 1, none⟩ (.int .i64 (wrap64 (t793 + 1)))) g s0_0 (wrap64 (t793 + 1)) t794 t795 t796 t797) := ⟨hz HI0.out⟩
        have n7_ : Aside0 (KeepBut w (w28.setCell ⟨g, 1, none⟩ (.int .i64 (wrap64 (t793 + 1)))) g none) := ⟨kz HK.out⟩
        have n8_ : Aside0 (Below w0.heap.size w0 (w28.setCell ⟨g, 1, none⟩ (.int .i64 (wrap64 (t793 + 1))))) := ⟨bz HB.out⟩
        (try clear HO_7)
        (try clear HO_791007)
        (try clear HL791_0)
        (try clear HL791_1)
        (try clear BK756)
        (try clear BK790)
        (try clear HI0)
        (try clear HK)
        (try clear HB)
        generalize (w28.setCell ⟨g, 1, none⟩ (.int .i64 (wrap64 (t793 + 1)))) = w42 at n0_ n1_ n2_ n3_ n4_ n5_ n6_ n7_ n8_ ⊢
        have HO_7 := n0_
        have HO_791007 := n1_
        have HL791_0 := n2_
        have HL791_1 := n3_
        have BK756 := n4_
        have BK790 := n5_
        have HI0 := n6_
        have HK := n7_
        have HB := n8_
        clear n0_ n1_ n2_ n3_ n4_ n5_ n6_ n7_ n8_
        replace HO_7 := am (Kd.N_drew HO_7.out)
        replace HO_791007 := am (Kd.V_drew HO_791007.out)
        replace HL791_0 := am (Kd.V_drew HL791_0.out)
        replace HL791_1 := am (Kd.V_drew HL791_1.out)
        replace BK756 := am (blk_drew BK756.out)
        replace BK790 := am (blk_drew BK790.out)
        replace HI0 := am (IsS63.drew HI0.out)
        replace HK := am (keep_drew HK.out)
        replace HB := am (below_drew1 HB.out)
        have p798 : 0 ≤ (a2 : Int) := of_decide_eq_true tz
        have q798 : a2 < (t757.length : Int) := of_decide_eq_true tz
        obtain ⟨ad798, A798_0, c798_0, A798_1, c798_1, e798, hx798_0, hx798_1, hx798_2, hl798_0, hi798_0, hl798_1, hi798_1⟩ := at_T143 (Kd.N_reads' HO_7.out).2.2 a2 p798 q798
        obtain rfl : ad791 = ad798 := (by injection e798)
        obtain ⟨ce798, hce798, hMe798, hcc798⟩ := Kd.N_get HO_7.out z143 a2 p798 (by first | exact q798 | exact of_decide_eq_true tz | (have e_ := (Kd.N_reads' HO_7.out).1; omega))
        obtain ⟨ua798_0, uc798_0, ua798_1, uc798_1, rfl, ul798_0, ge798_0, ul798_1, ge798_1⟩ := k143_openF hMe798
        have hv798_0 := hcc798 0 _ rfl
        rw [Nat.add_zero] at hv798_0
        replace hv798_0 := Option.some.inj (hv798_0.symm.trans hx798_0)
        injection hv798_0 with hva_ hvn_ hvc_
        rw [hva_] at ge798_0
        rw [hvc_] at ul798_0
        have HL798_0 := am (show Kd.V Kd.string 9 _ w.heap.size _ _ ((rd_T143 t757 a2).f0) from Kd.V_mk ul798_0 ge798_0)
        clear hva_ hvn_ hvc_ ge798_0 ul798_0
        have hv798_1 := hcc798 1 _ rfl
        rw [add_field _ _ 1 (by omega)] at hv798_1
        replace hv798_1 := Option.some.inj (hv798_1.symm.trans hx798_1)
        injection hv798_1 with hva_ hvn_ hvc_
        rw [hva_] at ge798_1
        rw [hvc_] at ul798_1
        have HL798_1 := am (show Kd.V (Kd.int .i64) 3 _ w.heap.size _ _ ((rd_T143 t757 a2).f1) from Kd.V_mk ul798_1 ge798_1)
        clear hva_ hvn_ hvc_ ge798_1 ul798_1 hcc798 hce798
        have HR798_0 := am hi798_0
        have HC798_0 := am hl798_0
        clear hi798_0 hl798_0
        have HR798_1 := am hi798_1
        have HC798_1 := am hl798_1
        clear hi798_1 hl798_1
        replace p798 := eq_true p798
        replace q798 := eq_true q798
        have p799 : 0 ≤ (t792 : Int) := of_decide_eq_true tz
        have q799 : t792 < (((rd_T143 t757 a2).f1).length : Int) := of_decide_eq_true tz
        obtain ⟨ad799, e799, hx799_0⟩ := Kd.at_int (by repeat (first | (with_reducible exact HR798_1.out) | (with_reducible refine Kd.C_alloc ?_ _) | (with_reducible refine Kd.C_drewN ?_ _) | (with_reducible refine Kd.C_drew ?_) | exact HR798_1.out)) t792 p799 q799
        cases e799
        replace p799 := eq_true p799
        replace q799 := eq_true q799
        refine start_ (n := 18) (S := fun w' => w'.cell? ⟨gb790, 0, none⟩ = some (.int .i64 x791000_1) ∧ w'.cell? ⟨gb790, 1, none⟩ = some (.int .i64 x791001_1) ∧ w'.cell? ⟨gb790, 2, none⟩ = some (.int .i64 x791002_1) ∧ w'.cell? ⟨gb790, 3, none⟩ = some (.int .i64 x791003_1) ∧ w'.cell? ⟨gb790, 4, none⟩ = some (.string x791004_1) ∧ w'.cell? ⟨gb790, 5, none⟩ = some (.int .i64 x791005_1) ∧ w'.cell? ⟨gb790, 6, none⟩ = some (.string x791006_1) ∧ w'.cell? ⟨gb790, 7, none⟩ = some (u791007) ∧ w'.cell? (ad791.add ((a2).toNat * 3)) = some (.slice A798_0 ((rd_T143 t757 a2).f0).length c798_0) ∧ w'.cell? ⟨(ad791.add ((a2).toNat * 3)).block, (ad791.add ((a2).toNat * 3)).off + 1, none⟩ = some (.slice (some ad799) ((rd_T143 t757 a2).f1).length c798_1) ∧ w'.cell? ⟨(ad791.add ((a2).toNat * 3)).block, (ad791.add ((a2).toNat * 3)).off + 2, none⟩ = some (.bool ((rd_T143 t757 a2).f2)) ∧ w'.cell? (ad799.add (t792).toNat) = some (.int .i64 (rd ((rd_T143 t757 a2).f1) t792))) (ds := [17]) (bts0 18) (by kernel_rfl) rfl rfl ⟨(blk_cell BK790.out 0).trans rfl, (blk_cell BK790.out 1).trans rfl, (blk_cell BK790.out 2).trans rfl, (blk_cell BK790.out 3).trans rfl, (blk_cell BK790.out 4).trans rfl, (blk_cell BK790.out 5).trans rfl, (blk_cell BK790.out 6).trans rfl, (blk_cell BK790.out 7).trans rfl, hx798_0, hx798_1, hx798_2, hx799_0⟩ (fun hHeld => ?_); refine with_tabW expr_Parser_chain.tab9 expr_Parser_chain.bits9 (fun HT_ HW_ => ?_)
        generalize w42.drew = w43 at HO_7 HO_791007 HL791_0 HL791_1 BK756 BK790 HI0 HK HB HL798_0 HL798_1 HR798_0 HR798_1 hx798_0 hx798_1 hx798_2 hx799_0 hHeld ⊢
        refine pu 0 (some 43) (bts 18 1) (any_of HT_.out (by kernel_rfl)) ?_
        refine pu 1 (some 44) (bts 18 3) (any_of HT_.out (by kernel_rfl)) ?_
        refine pu 2 (some 45) (bts 18 7) (any_of HT_.out (by kernel_rfl)) ?_
        refine pu 3 (some 46) (bts 18 15) (any_of HT_.out (by kernel_rfl)) ?_
        refine pu 4 (some 47) (bts 18 31) (any_of HT_.out (by kernel_rfl)) ?_
        refine pu 6 (some 49) (bts 18 95) (any_of HT_.out (by kernel_rfl)) ?_
        refine pu 10 (some 53) (bts 18 1119) (any_of HT_.out (by kernel_rfl)) ?_
        refine pu 11 (some 54) (bts 18 3167) (any_of HT_.out (by kernel_rfl)) ?_
        refine pu 12 (some 55) (bts 18 7263) (any_of HT_.out (by kernel_rfl)) ?_
        refine pu 13 (some 56) (bts 18 15455) (any_of HT_.out (by kernel_rfl)) ?_
        refine ta 5 (some 48) (bts 18 15487) (take_ofW HT_.out HW_.out (by kernel_rfl)) hHeld ?_
        refine pu 7 (some 50) (bts 18 15615) (any_of HT_.out (by kernel_rfl)) ?_
        refine ta 8 (some 51) (bts 18 15871) (take_ofW HT_.out HW_.out (by kernel_rfl)) hHeld ?_
        refine ta 9 (some 52) (bts 18 16383) (take_ofW HT_.out HW_.out (by kernel_rfl)) hHeld ?_
        refine one_ (i := 14) (N := some 57) (bts 18 32767) rfl rfl (one_of HT_.out (by kernel_rfl)) (by decide) (fun K hK => ?_)
        refine goes_ Tryz.func64 (by kernel_rfl) rfl #[.pointer (some ⟨g, 0, none⟩), .int .i64 a1, .int .i64 (wrap64 (a2 + 1))] (by rfl) rfl rfl lz ?_
        with_reducible refine (ih_expr_Parser_chain k1 (by have := HK1.out; omega) g s0_0 (wrap64 (t793 + 1)) t794 t795 t796 t797 a1 (wrap64 (a2 + 1)) t800 t801 t802 t803 t804 t805 t806 t807 t810 t811 t812 t813 t814 w0 _ ?side1 ?side2 A38.out).mono ?_
        (case side1 => exact hz HI0.out)
        (case side2 => exact bz HB.out)
        rintro e w44 ⟨v808, rfl, ho0, hi, hb, hk⟩
        have HS8_ := keep_cell hk (hHeld.2.2.2.2.2.2.2.2.1) (by first | (rw [add_block]; exact Kd.own_blk (IsS63.own_neN HI0.out HO_7.out (by decide))) | (show (Addr.add _ _).block ≠ _; rw [add_block]; exact Kd.own_blk (IsS63.own_neN HI0.out HO_7.out (by decide))) | exact Kd.own_blk (IsS63.own_neN HI0.out HO_7.out (by decide)))
        have HS9_ := keep_cell hk (hHeld.2.2.2.2.2.2.2.2.2.1) (by first | (rw [add_block]; exact Kd.own_blk (IsS63.own_neN HI0.out HO_7.out (by decide))) | (show (Addr.add _ _).block ≠ _; rw [add_block]; exact Kd.own_blk (IsS63.own_neN HI0.out HO_7.out (by decide))) | exact Kd.own_blk (IsS63.own_neN HI0.out HO_7.out (by decide)))
        have HS10_ := keep_cell hk (hHeld.2.2.2.2.2.2.2.2.2.2.1) (by first | (rw [add_block]; exact Kd.own_blk (IsS63.own_neN HI0.out HO_7.out (by decide))) | (show (Addr.add _ _).block ≠ _; rw [add_block]; exact Kd.own_blk (IsS63.own_neN HI0.out HO_7.out (by decide))) | exact Kd.own_blk (IsS63.own_neN HI0.out HO_7.out (by decide)))
        have HS11_ := keep_cell hk (hHeld.2.2.2.2.2.2.2.2.2.2.2) (by first | (rw [add_block]; exact (vne HL798_1.out 0 t792 (of_eq_true p799) (of_eq_true q799) (by decide) (fun k hk => by rintro rfl; simp at hk))) | (show (Addr.add _ _).block ≠ _; rw [add_block]; exact (vne HL798_1.out 0 t792 (of_eq_true p799) (of_eq_true q799) (by decide) (fun k hk => by rintro rfl; simp at hk))) | exact (vne HL798_1.out 0 t792 (of_eq_true p799) (of_eq_true q799) (by decide) (fun k hk => by rintro rfl; simp at hk)))
        refine ⟨_, rfl, ?_⟩
        replace HO_791007 := am (Kd.V_mono (Kd.V_keep (Kd.V_mono (ok := fun k_ => (((w.heap.size ≤ k_)) ∧ (some k_ ≠ (.slice (some ad791) t757.length co27 : Value).ownBlock ∧ (k_ ≠ gb756 ∧ (k_ ≠ gb790 ∧ k_ ≠ g))))) (vv HO_791007.out) (fun k_ hk_ => (⟨hk_, hk_.2.2.2.2⟩ : _ ∧ k_ ≠ g))) hk (fun _ h => h.2)) (fun _ h => h.1))
        replace HL791_0 := am (Kd.V_mono (Kd.V_keep (Kd.V_mono (ok := fun k_ => (((w.heap.size ≤ k_)) ∧ (some k_ ≠ (.slice (some ad791) t757.length co27 : Value).ownBlock ∧ (k_ ≠ gb756 ∧ (k_ ≠ gb790 ∧ k_ ≠ g))))) (vv HL791_0.out) (fun k_ hk_ => (⟨hk_, hk_.2.2.2.2⟩ : _ ∧ k_ ≠ g))) hk (fun _ h => h.2)) (fun _ h => h.1))
        replace HL791_1 := am (Kd.V_mono (Kd.V_keep (Kd.V_mono (ok := fun k_ => (((w.heap.size ≤ k_)) ∧ (some k_ ≠ (.slice (some ad791) t757.length co27 : Value).ownBlock ∧ (k_ ≠ gb756 ∧ (k_ ≠ gb790 ∧ k_ ≠ g))))) (vv HL791_1.out) (fun k_ hk_ => (⟨hk_, hk_.2.2.2.2⟩ : _ ∧ k_ ≠ g))) hk (fun _ h => h.2)) (fun _ h => h.1))
        replace HL798_0 := am (Kd.V_mono (Kd.V_keep (Kd.V_mono (ok := fun k_ => ((((w.heap.size ≤ k_)) ∧ (k_ ≠ gb756 ∧ (k_ ≠ gb790 ∧ k_ ≠ g))) ∧ some k_ ≠ (.slice (some ad791) t757.length co27 : Value).ownBlock)) (vv HL798_0.out) (fun k_ hk_ => (⟨hk_, hk_.1.2.2.2⟩ : _ ∧ k_ ≠ g))) hk (fun _ h => h.2)) (fun _ h => h.1))
        replace HL798_1 := am (Kd.V_mono (Kd.V_keep (Kd.V_mono (ok := fun k_ => ((((w.heap.size ≤ k_)) ∧ (k_ ≠ gb756 ∧ (k_ ≠ gb790 ∧ k_ ≠ g))) ∧ some k_ ≠ (.slice (some ad791) t757.length co27 : Value).ownBlock)) (vv HL798_1.out) (fun k_ hk_ => (⟨hk_, hk_.1.2.2.2⟩ : _ ∧ k_ ≠ g))) hk (fun _ h => h.2)) (fun _ h => h.1))
        have HO809 := am (Kd.V_lower (Kd.V_mono (ok' := fun k_ => (w.heap.size ≤ k_) ∧ some k_ ≠ (.slice (some ad791) t757.length co27 : Value).ownBlock ∧ k_ ≠ gb756 ∧ k_ ≠ gb790 ∧ k_ ≠ g) ho0 (fun k_ hk_ => ⟨(Nat.le_trans (keep_size (w := w) (g := g) (row := none) (kz HK.out)) hk_), (Kd.fresh' (Kd.N_lt (nn HO_7.out)) k_ hk_), (Kd.freshB (bk BK756.out) k_ hk_), (Kd.freshB (bk BK790.out) k_ hk_), (IsS63.fresh (hz HI0.out) k_ hk_)⟩)) (keep_size (w := w) (g := g) (row := none) (kz HK.out)))
        replace HO_7 := am (Kd.N_mono (Kd.N_keep (Kd.N_mono (ok := fun k_ => (((w.heap.size ≤ k_)) ∧ (k_ ≠ gb756 ∧ (k_ ≠ gb790 ∧ k_ ≠ g)))) (nn HO_7.out) (fun k_ hk_ => (⟨hk_, hk_.2.2.2⟩ : _ ∧ k_ ≠ g))) hk (fun _ h => h.2)) (fun _ h => h.1))
        replace BK756 := am (KeepBut.blk hk (bk BK756.out) NB756_0.out (by simp))
        replace BK790 := am (KeepBut.blk hk (bk BK790.out) NB790_0.out (by simp))
        replace HK := am (KeepBut.trans (kz HK.out) hk (.inl rfl))
        replace HB := am (hb)
        replace HI0 := am (hi)
        (try clear hb)
        (try clear hb2)
        (try clear hk)
        (try clear hi)
        (try clear ho0)
        obtain ⟨Ao45, co45, eo45⟩ := Kd.V_slice HO_791007.out
        (first | subst eo45 | (injection eo45 with f1_ f2_ f3_; have f4_ := f1_.symm; have f5_ := f3_.symm; clear f1_ f2_ f3_; subst f4_; subst f5_))
        obtain ⟨Ao46, co46, eo46⟩ := Kd.V_slice HO809.out
        (first | subst eo46 | (injection eo46 with f1_ f2_ f3_; have f4_ := f1_.symm; have f5_ := f3_.symm; clear f1_ f2_ f3_; subst f4_; subst f5_))
        refine hK.out _ _ ⟨(blk_cell BK790.out 0).trans rfl, (blk_cell BK790.out 1).trans rfl, (blk_cell BK790.out 2).trans rfl, (blk_cell BK790.out 3).trans rfl, (blk_cell BK790.out 4).trans rfl, (blk_cell BK790.out 5).trans rfl, (blk_cell BK790.out 6).trans rfl, (blk_cell BK790.out 7).trans rfl, HS8_, HS9_, HS10_, HS11_⟩ (fun hHeld => ?_)
        clear hK K
        refine norm_ (a' := ?_) ?_ ?_
        rotate_left
        ·show Act.put _ (some 57) _ = _
         simp only [Act.put, List.setIfInBounds_toArray, List.set_cons_zero, List.set_cons_succ, i64_w, i32_w]
         rfl
        refine one_ (i := 15) (N := some 58) (bts 18 65535) rfl rfl (one_of HT_.out (by kernel_rfl)) (by decide) (fun K hK => ?_)
        refine Kd.N_lit_step k31 _ 31 ?hg (N' := 58) ?hd (xs := ([(⟨x791000_1, (⟨x791001_1, (⟨x791002_1, x791003_1⟩ : S23), x791004_1, x791005_1⟩ : S25), x791006_1, x791007_1⟩ : S31), (⟨t800, (⟨t801, (⟨t802, t803⟩ : S23), t804, t805⟩ : S25), t806, t807⟩ : S31)] : List (S31))) (inner := [.int .i64 x791000_1, .int .i64 x791001_1, .int .i64 x791002_1, .int .i64 x791003_1, .string x791004_1, .int .i64 x791005_1, .string x791006_1, .slice Ao45 x791007_1.length co45, .int .i64 t800, .int .i64 t801, .int .i64 t802, .int .i64 t803, .string t804, .int .i64 t805, .string t806, .slice Ao46 t807.length co46]) (ok := (fun k_ => (w.heap.size ≤ k_) ∧ some k_ ≠ (.slice (some ad791) t757.length co27 : Value).ownBlock ∧ k_ ≠ gb756 ∧ k_ ≠ gb790 ∧ k_ ≠ g)) (okp := (fun k_ => (w.heap.size ≤ k_) ∧ some k_ ≠ (.slice (some ad791) t757.length co27 : Value).ownBlock ∧ k_ ≠ gb756 ∧ k_ ≠ gb790 ∧ k_ ≠ g)) ?hr ?hp (fun _ hk => hk) ((show ∀ k_, w44.heap.size ≤ k_ → (fun k_ => (w.heap.size ≤ k_) ∧ some k_ ≠ (.slice (some ad791) t757.length co27 : Value).ownBlock ∧ k_ ≠ gb756 ∧ k_ ≠ gb790 ∧ k_ ≠ g) k_ from fun k_ hk => ⟨(Nat.le_trans (keep_size (w := w) (g := g) (row := none) (kz HK.out)) hk), Kd.fresh' (Kd.N_lt (nn HO_7.out)) k_ hk, Kd.freshB (bk BK756.out) k_ hk, Kd.freshB (bk BK790.out) k_ hk, IsS63.fresh (hz HI0.out) k_ hk⟩) _ (Nat.le_refl _)) (Below.refl _ _) (Nat.le_refl _) (by simp) ?_; (case hd => rfl); (case hg => rfl); (case hr => first | (go_simp; done) | (go_simp; rfl)); (case hp => exact (Reps.c8 (show Kd.FK k31 _ _ (⟨x791000_1, (⟨x791001_1, (⟨x791002_1, x791003_1⟩ : S23), x791004_1, x791005_1⟩ : S25), x791006_1, x791007_1⟩ : S31) [.int .i64 x791000_1, .int .i64 x791001_1, .int .i64 x791002_1, .int .i64 x791003_1, .string x791004_1, .int .i64 x791005_1, .string x791006_1, .slice Ao45 x791007_1.length co45] from (k31_mkF _ _ (⟨x791000_1, (⟨x791001_1, (⟨x791002_1, x791003_1⟩ : S23), x791004_1, x791005_1⟩ : S25), x791006_1, x791007_1⟩ : S31) (Kd.V_reads' (Kd.V_mono (ok' := (fun k_ => (w.heap.size ≤ k_) ∧ some k_ ≠ (.slice (some ad791) t757.length co27 : Value).ownBlock ∧ k_ ≠ gb756 ∧ k_ ≠ gb790 ∧ k_ ≠ g)) (HO_791007.out) (fun k_ hk => ⟨hk.1, ⟨hk.2.1, ⟨hk.2.2.1, ⟨hk.2.2.2.1, hk.2.2.2.2⟩⟩⟩⟩))).2.1 (Kd.V_F (Kd.V_mono (ok' := (fun k_ => (w.heap.size ≤ k_) ∧ some k_ ≠ (.slice (some ad791) t757.length co27 : Value).ownBlock ∧ k_ ≠ gb756 ∧ k_ ≠ gb790 ∧ k_ ≠ g)) (HO_791007.out) (fun k_ hk => ⟨hk.1, ⟨hk.2.1, ⟨hk.2.2.1, ⟨hk.2.2.2.1, hk.2.2.2.2⟩⟩⟩⟩))))) (Reps.c8 (show Kd.FK k31 _ _ (⟨t800, (⟨t801, (⟨t802, t803⟩ : S23), t804, t805⟩ : S25), t806, t807⟩ : S31) [.int .i64 t800, .int .i64 t801, .int .i64 t802, .int .i64 t803, .string t804, .int .i64 t805, .string t806, .slice Ao46 t807.length co46] from (k31_mkF _ _ (⟨t800, (⟨t801, (⟨t802, t803⟩ : S23), t804, t805⟩ : S25), t806, t807⟩ : S31) (Kd.V_reads' (Kd.V_mono (ok' := (fun k_ => (w.heap.size ≤ k_) ∧ some k_ ≠ (.slice (some ad791) t757.length co27 : Value).ownBlock ∧ k_ ≠ gb756 ∧ k_ ≠ gb790 ∧ k_ ≠ g)) (HO809.out) (fun k_ hk => ⟨hk.1, ⟨hk.2.1, ⟨hk.2.2.1, ⟨hk.2.2.2.1, hk.2.2.2.2⟩⟩⟩⟩))).2.1 (Kd.V_F (Kd.V_mono (ok' := (fun k_ => (w.heap.size ≤ k_) ∧ some k_ ≠ (.slice (some ad791) t757.length co27 : Value).ownBlock ∧ k_ ≠ gb756 ∧ k_ ≠ gb790 ∧ k_ ≠ g)) (HO809.out) (fun k_ hk => ⟨hk.1, ⟨hk.2.1, ⟨hk.2.2.1, ⟨hk.2.2.2.1, hk.2.2.2.2⟩⟩⟩⟩))))) (Reps.none _ _))))
        intro v816 w47 ho48 hb hg_ hnew_
        have HS8_ := (hb.cell (World.block_lt_of_cell? _ _ (hHeld.2.2.2.2.2.2.2.2.1))).trans (hHeld.2.2.2.2.2.2.2.2.1)
        have HS9_ := (hb.cell (World.block_lt_of_cell? _ _ (hHeld.2.2.2.2.2.2.2.2.2.1))).trans (hHeld.2.2.2.2.2.2.2.2.2.1)
        have HS10_ := (hb.cell (World.block_lt_of_cell? _ _ (hHeld.2.2.2.2.2.2.2.2.2.2.1))).trans (hHeld.2.2.2.2.2.2.2.2.2.2.1)
        have HS11_ := (hb.cell (World.block_lt_of_cell? _ _ (hHeld.2.2.2.2.2.2.2.2.2.2.2))).trans (hHeld.2.2.2.2.2.2.2.2.2.2.2)
        clear hg_ hnew_
        (first | rw [← Ny815.out] at ho48 | (simp only [Int.reduceToNat] at ho48; rw [← Ny815.out] at ho48))
        replace HO_7 := am (Kd.N_elder' (nn HO_7.out) (Kd.N_base ho48) hb)
        replace HO_791007 := am (Kd.V_elder' (vv HO_791007.out) (Kd.N_base ho48) hb)
        replace HL791_0 := am (Kd.V_elder' (vv HL791_0.out) (Kd.N_base ho48) hb)
        replace HL791_1 := am (Kd.V_elder' (vv HL791_1.out) (Kd.N_base ho48) hb)
        replace HL798_0 := am (Kd.V_elder' (vv HL798_0.out) (Kd.N_base ho48) hb)
        replace HL798_1 := am (Kd.V_elder' (vv HL798_1.out) (Kd.N_base ho48) hb)
        replace HO809 := am (Kd.V_elder' (vv HO809.out) (Kd.N_base ho48) hb)
        have HO817 := am (Kd.N_lower ho48 (keep_size (w := w) (g := g) (row := none) (kz HK.out)))
        replace BK756 := kb BK756 hb
        replace BK790 := kb BK790 hb
        replace HI0 := am (IsS63.below (hz HI0.out) hb)
        replace HK := am (KeepBut.trans (kz HK.out) (KeepBut.of_below hb g none) (.inl rfl))
        replace HB := sb HB hb
        clear hb ho48
        obtain ⟨Ao49, co49, eo49⟩ := Kd.N_slice HO817.out
        (first | subst eo49 | (injection eo49 with f1_ f2_ f3_; have f4_ := f1_.symm; have f5_ := f3_.symm; clear f1_ f2_ f3_; subst f4_; subst f5_))
        refine hK.out _ _ ⟨(blk_cell BK790.out 0).trans rfl, (blk_cell BK790.out 1).trans rfl, (blk_cell BK790.out 2).trans rfl, (blk_cell BK790.out 3).trans rfl, (blk_cell BK790.out 4).trans rfl, (blk_cell BK790.out 5).trans rfl, (blk_cell BK790.out 6).trans rfl, (blk_cell BK790.out 7).trans rfl, HS8_, HS9_, HS10_, HS11_⟩ (fun hHeld => ?_)
        clear hK K
        refine norm_ (a' := ?_) ?_ ?_
        rotate_left
        ·show Act.put _ (some 58) _ = _
         simp only [Act.put, List.setIfInBounds_toArray, List.set_cons_zero, List.set_cons_succ, i64_w, i32_w]
         rfl
        refine one_ (i := 16) (N := some 59) (bts 18 131071) rfl rfl (one_of HT_.out (by kernel_rfl)) (by decide) (fun K hK => ?_)
        refine goes_ Tryz.func66 (by kernel_rfl) rfl #[.pointer (some ⟨g, 0, none⟩), .int .i64 (rd ((rd_T143 t757 a2).f1) t792), .slice Ao49 y815.length co49] (by rfl) rfl rfl lz ?_
        with_reducible refine (expr_Parser_make.calls g s0_0 t810 t811 t812 t813 t814 (rd ((rd_T143 t757 a2).f1) t792) (fun k_ => ((w.heap.size ≤ k_) ∧ (some k_ ≠ (.slice (some ad791) t757.length co27 : Value).ownBlock ∧ (k_ ≠ gb756 ∧ (k_ ≠ gb790 ∧ k_ ≠ g))))) _ _ y815 t818 t819 t820 t821 t822 t823 t824 t825 t828 t829 t830 t831 t832 w0 _ ?side1 ?side2 ?side3 A39.out).mono ?_
        (case side1 => exact hz HI0.out)
        (case side2 => exact bz HB.out)
        (case side3 => exact Kd.V_mono (Kd.N_V (HO817.out)) (fun k_ hk_ => ⟨hk_, hk_.2.2.2.2⟩))
        rintro e w50 ⟨v826, rfl, ho0, hi, hb, hk⟩
        have HS8_ := keep_cell hk (hHeld.2.2.2.2.2.2.2.2.1) (by first | (rw [add_block]; exact Kd.own_blk (IsS63.own_neN HI0.out HO_7.out (by decide))) | (show (Addr.add _ _).block ≠ _; rw [add_block]; exact Kd.own_blk (IsS63.own_neN HI0.out HO_7.out (by decide))) | exact Kd.own_blk (IsS63.own_neN HI0.out HO_7.out (by decide)))
        have HS9_ := keep_cell hk (hHeld.2.2.2.2.2.2.2.2.2.1) (by first | (rw [add_block]; exact Kd.own_blk (IsS63.own_neN HI0.out HO_7.out (by decide))) | (show (Addr.add _ _).block ≠ _; rw [add_block]; exact Kd.own_blk (IsS63.own_neN HI0.out HO_7.out (by decide))) | exact Kd.own_blk (IsS63.own_neN HI0.out HO_7.out (by decide)))
        have HS10_ := keep_cell hk (hHeld.2.2.2.2.2.2.2.2.2.2.1) (by first | (rw [add_block]; exact Kd.own_blk (IsS63.own_neN HI0.out HO_7.out (by decide))) | (show (Addr.add _ _).block ≠ _; rw [add_block]; exact Kd.own_blk (IsS63.own_neN HI0.out HO_7.out (by decide))) | exact Kd.own_blk (IsS63.own_neN HI0.out HO_7.out (by decide)))
        have HS11_ := keep_cell hk (hHeld.2.2.2.2.2.2.2.2.2.2.2) (by first | (rw [add_block]; exact (vne HL798_1.out 0 t792 (of_eq_true p799) (of_eq_true q799) (by decide) (fun k hk => by rintro rfl; simp at hk))) | (show (Addr.add _ _).block ≠ _; rw [add_block]; exact (vne HL798_1.out 0 t792 (of_eq_true p799) (of_eq_true q799) (by decide) (fun k hk => by rintro rfl; simp at hk))) | exact (vne HL798_1.out 0 t792 (of_eq_true p799) (of_eq_true q799) (by decide) (fun k hk => by rintro rfl; simp at hk)))
        refine ⟨_, rfl, ?_⟩
        replace HO_791007 := am (Kd.V_mono (Kd.V_keep (Kd.V_mono (ok := fun k_ => ((((w.heap.size ≤ k_)) ∧ (some k_ ≠ (.slice (some ad791) t757.length co27 : Value).ownBlock ∧ (k_ ≠ gb756 ∧ (k_ ≠ gb790 ∧ k_ ≠ g)))) ∧ some k_ ≠ (.slice Ao49 y815.length co49 : Value).ownBlock)) (vv HO_791007.out) (fun k_ hk_ => (⟨hk_, hk_.1.2.2.2.2⟩ : _ ∧ k_ ≠ g))) hk (fun _ h => h.2)) (fun _ h => h.1))
        replace HL791_0 := am (Kd.V_mono (Kd.V_keep (Kd.V_mono (ok := fun k_ => ((((w.heap.size ≤ k_)) ∧ (some k_ ≠ (.slice (some ad791) t757.length co27 : Value).ownBlock ∧ (k_ ≠ gb756 ∧ (k_ ≠ gb790 ∧ k_ ≠ g)))) ∧ some k_ ≠ (.slice Ao49 y815.length co49 : Value).ownBlock)) (vv HL791_0.out) (fun k_ hk_ => (⟨hk_, hk_.1.2.2.2.2⟩ : _ ∧ k_ ≠ g))) hk (fun _ h => h.2)) (fun _ h => h.1))
        replace HL791_1 := am (Kd.V_mono (Kd.V_keep (Kd.V_mono (ok := fun k_ => ((((w.heap.size ≤ k_)) ∧ (some k_ ≠ (.slice (some ad791) t757.length co27 : Value).ownBlock ∧ (k_ ≠ gb756 ∧ (k_ ≠ gb790 ∧ k_ ≠ g)))) ∧ some k_ ≠ (.slice Ao49 y815.length co49 : Value).ownBlock)) (vv HL791_1.out) (fun k_ hk_ => (⟨hk_, hk_.1.2.2.2.2⟩ : _ ∧ k_ ≠ g))) hk (fun _ h => h.2)) (fun _ h => h.1))
        replace HL798_0 := am (Kd.V_mono (Kd.V_keep (Kd.V_mono (ok := fun k_ => (((((w.heap.size ≤ k_)) ∧ (k_ ≠ gb756 ∧ (k_ ≠ gb790 ∧ k_ ≠ g))) ∧ some k_ ≠ (.slice (some ad791) t757.length co27 : Value).ownBlock) ∧ some k_ ≠ (.slice Ao49 y815.length co49 : Value).ownBlock)) (vv HL798_0.out) (fun k_ hk_ => (⟨hk_, hk_.1.1.2.2.2⟩ : _ ∧ k_ ≠ g))) hk (fun _ h => h.2)) (fun _ h => h.1))
        replace HL798_1 := am (Kd.V_mono (Kd.V_keep (Kd.V_mono (ok := fun k_ => (((((w.heap.size ≤ k_)) ∧ (k_ ≠ gb756 ∧ (k_ ≠ gb790 ∧ k_ ≠ g))) ∧ some k_ ≠ (.slice (some ad791) t757.length co27 : Value).ownBlock) ∧ some k_ ≠ (.slice Ao49 y815.length co49 : Value).ownBlock)) (vv HL798_1.out) (fun k_ hk_ => (⟨hk_, hk_.1.1.2.2.2⟩ : _ ∧ k_ ≠ g))) hk (fun _ h => h.2)) (fun _ h => h.1))
        replace HO809 := am (Kd.V_mono (Kd.V_keep (Kd.V_mono (ok := fun k_ => ((((w.heap.size ≤ k_)) ∧ (some k_ ≠ (.slice (some ad791) t757.length co27 : Value).ownBlock ∧ (k_ ≠ gb756 ∧ (k_ ≠ gb790 ∧ k_ ≠ g)))) ∧ some k_ ≠ (.slice Ao49 y815.length co49 : Value).ownBlock)) (vv HO809.out) (fun k_ hk_ => (⟨hk_, hk_.1.2.2.2.2⟩ : _ ∧ k_ ≠ g))) hk (fun _ h => h.2)) (fun _ h => h.1))
        replace HO817 := am (Kd.N_mono (Kd.N_keep (Kd.N_mono (ok := fun k_ => (((w.heap.size ≤ k_)) ∧ (some k_ ≠ (.slice (some ad791) t757.length co27 : Value).ownBlock ∧ (k_ ≠ gb756 ∧ (k_ ≠ gb790 ∧ k_ ≠ g))))) (nn HO817.out) (fun k_ hk_ => (⟨hk_, hk_.2.2.2.2⟩ : _ ∧ k_ ≠ g))) hk (fun _ h => h.2)) (fun _ h => h.1))
        have HO827 := am (Kd.V_lower (Kd.V_mono (ok' := fun k_ => (w.heap.size ≤ k_) ∧ some k_ ≠ (.slice (some ad791) t757.length co27 : Value).ownBlock ∧ k_ ≠ gb756 ∧ k_ ≠ gb790 ∧ k_ ≠ g) ho0 (fun k_ hk_ => ⟨Or.elim hk_ (fun hs_ => hs_.1) (fun hn_ => (Nat.le_trans (keep_size (w := w) (g := g) (row := none) (kz HK.out)) hn_)), Or.elim hk_ (fun hs_ => hs_.2.1) (fun hn_ => (Kd.fresh' (Kd.N_lt (nn HO_7.out)) k_ hn_)), Or.elim hk_ (fun hs_ => hs_.2.2.1) (fun hn_ => (Kd.freshB (bk BK756.out) k_ hn_)), Or.elim hk_ (fun hs_ => hs_.2.2.2.1) (fun hn_ => (Kd.freshB (bk BK790.out) k_ hn_)), Or.elim hk_ (fun hs_ => hs_.2.2.2.2) (fun hn_ => (IsS63.fresh (hz HI0.out) k_ hn_))⟩)) (keep_size (w := w) (g := g) (row := none) (kz HK.out)))
        replace HO_7 := am (Kd.N_mono (Kd.N_keep (Kd.N_mono (ok := fun k_ => ((((w.heap.size ≤ k_)) ∧ (k_ ≠ gb756 ∧ (k_ ≠ gb790 ∧ k_ ≠ g))) ∧ some k_ ≠ (.slice Ao49 y815.length co49 : Value).ownBlock)) (nn HO_7.out) (fun k_ hk_ => (⟨hk_, hk_.1.2.2.2⟩ : _ ∧ k_ ≠ g))) hk (fun _ h => h.2)) (fun _ h => h.1))
        replace BK756 := am (KeepBut.blk hk (bk BK756.out) NB756_0.out (by simp))
        replace BK790 := am (KeepBut.blk hk (bk BK790.out) NB790_0.out (by simp))
        replace HK := am (KeepBut.trans (kz HK.out) hk (.inl rfl))
        replace HB := am (hb)
        replace HI0 := am (hi)
        (try clear hb)
        (try clear hb2)
        (try clear hk)
        (try clear hi)
        (try clear ho0)
        obtain ⟨Ao58, co58, eo58⟩ := Kd.V_slice HO827.out
        (first | subst eo58 | (injection eo58 with f1_ f2_ f3_; have f4_ := f1_.symm; have f5_ := f3_.symm; clear f1_ f2_ f3_; subst f4_; subst f5_))
        refine hK.out _ _ ⟨(blk_cell BK790.out 0).trans rfl, (blk_cell BK790.out 1).trans rfl, (blk_cell BK790.out 2).trans rfl, (blk_cell BK790.out 3).trans rfl, (blk_cell BK790.out 4).trans rfl, (blk_cell BK790.out 5).trans rfl, (blk_cell BK790.out 6).trans rfl, (blk_cell BK790.out 7).trans rfl, HS8_, HS9_, HS10_, HS11_⟩ (fun hHeld => ?_)
        clear hK K
        refine norm_ (a' := ?_) ?_ ?_
        rotate_left
        ·show Act.put _ (some 59) _ = _
         simp only [Act.put, List.setIfInBounds_toArray, List.set_cons_zero, List.set_cons_succ, i64_w, i32_w]
         rfl
        refine last_ (i := 17) (N := none) #[true, true, true, true, true, true, true, true, true, true, true, true, true, true, true, true, true, true] rfl rfl (one_of HT_.out (by kernel_rfl)) (by decide) (fun K hK => ?_)
        have hs51 : w50.cell? ⟨gb790, 0, none⟩ = some (.int .i64 x791000_1) := (blk_cell BK790.out 0).trans rfl
        have hfs51 := blk_frozen BK790.out 0
        have hns51_0 := NB756_790.out
        have hms51_0 := NB790_756.out
        have hs52 : w50.cell? ⟨gb790, 1, none⟩ = some (.int .i64 x791001_1) := (blk_cell BK790.out 1).trans rfl
        have hfs52 := blk_frozen BK790.out 1
        have hns52_0 := NB756_790.out
        have hms52_0 := NB790_756.out
        have hs53 : w50.cell? ⟨gb790, 2, none⟩ = some (.int .i64 x791002_1) := (blk_cell BK790.out 2).trans rfl
        have hfs53 := blk_frozen BK790.out 2
        have hns53_0 := NB756_790.out
        have hms53_0 := NB790_756.out
        have hs54 : w50.cell? ⟨gb790, 3, none⟩ = some (.int .i64 x791003_1) := (blk_cell BK790.out 3).trans rfl
        have hfs54 := blk_frozen BK790.out 3
        have hns54_0 := NB756_790.out
        have hms54_0 := NB790_756.out
        have hs55 : w50.cell? ⟨gb790, 4, none⟩ = some (.string x791004_1) := (blk_cell BK790.out 4).trans rfl
        have hfs55 := blk_frozen BK790.out 4
        have hns55_0 := NB756_790.out
        have hms55_0 := NB790_756.out
        have hs56 : w50.cell? ⟨gb790, 5, none⟩ = some (.int .i64 x791005_1) := (blk_cell BK790.out 5).trans rfl
        have hfs56 := blk_frozen BK790.out 5
        have hns56_0 := NB756_790.out
        have hms56_0 := NB790_756.out
        have hs57 : w50.cell? ⟨gb790, 6, none⟩ = some (.string x791006_1) := (blk_cell BK790.out 6).trans rfl
        have hfs57 := blk_frozen BK790.out 6
        have hns57_0 := NB756_790.out
        have hms57_0 := NB790_756.out
        have hs59 : w50.cell? ⟨gb790, 7, none⟩ = some (.slice Ao45 x791007_1.length co45) := (blk_cell BK790.out 7).trans rfl
        have hfs59 := blk_frozen BK790.out 7
        have hns59_0 := NB756_790.out
        have hms59_0 := NB790_756.out
        refine skip_ (w1 := ?_) (by rfl) rfl ?_ ?_
        rotate_left
        ·go_simp
         rfl
        refine hK.out _ _ ?_
        clear hK K
        refine done_ (done_of HT_.out (by kernel_rfl)) ?_
        have n0_ : Aside0 (Kd.N k143 143 ((((((((w50.setCell ⟨gb790, 0, none⟩ (.int .i64 t818)).setCell ⟨gb790, 1, none⟩ (.int .i64 t819)).setCell ⟨gb790, 2, none⟩ (.int .i64 t820)).setCell ⟨gb790, 3, none⟩ (.int .i64 t821)).setCell ⟨gb790, 4, none⟩ (.string t822)).setCell ⟨gb790, 5, none⟩ (.int .i64 t823)).setCell ⟨gb790, 6, none⟩ (.string t824)).setCell ⟨gb790, 7, none⟩ (.slice Ao58 t825.length co58)) w.heap.size (fun k_ => (w.heap.size ≤ k_) ∧ some k_ ≠ (.slice Ao49 y815.length co49 : Value).ownBlock ∧ k_ ≠ gb756 ∧ k_ ≠ gb790 ∧ k_ ≠ g) (.slice (some ad791) t757.length co27) t757) := ⟨vfN (Kd.N_mono HO_7.out (fun k_ hk => (⟨hk, hk.1.2.2.1⟩ : _ ∧ k_ ≠ gb790)))⟩
        have n1_ : Aside0 (Kd.V k31 31 ((((((((w50.setCell ⟨gb790, 0, none⟩ (.int .i64 t818)).setCell ⟨gb790, 1, none⟩ (.int .i64 t819)).setCell ⟨gb790, 2, none⟩ (.int .i64 t820)).setCell ⟨gb790, 3, none⟩ (.int .i64 t821)).setCell ⟨gb790, 4, none⟩ (.string t822)).setCell ⟨gb790, 5, none⟩ (.int .i64 t823)).setCell ⟨gb790, 6, none⟩ (.string t824)).setCell ⟨gb790, 7, none⟩ (.slice Ao58 t825.length co58)) w.heap.size (fun k_ => (w.heap.size ≤ k_) ∧ some k_ ≠ (.slice (some ad791) t757.length co27 : Value).ownBlock ∧ some k_ ≠ (.slice Ao49 y815.length co49 : Value).ownBlock ∧ k_ ≠ gb756 ∧ k_ ≠ gb790 ∧ k_ ≠ g) (.slice Ao45 x791007_1.length co45) x791007_1) := ⟨vfV (Kd.V_mono HO_791007.out (fun k_ hk => (⟨hk, hk.1.2.2.2.1⟩ : _ ∧ k_ ≠ gb790)))⟩
        have n2_ : Aside0 (Kd.V Kd.string 9 ((((((((w50.setCell ⟨gb790, 0, none⟩ (.int .i64 t818)).setCell ⟨gb790, 1, none⟩ (.int .i64 t819)).setCell ⟨gb790, 2, none⟩ (.int .i64 t820)).setCell ⟨gb790, 3, none⟩ (.int .i64 t821)).setCell ⟨gb790, 4, none⟩ (.string t822)).setCell ⟨gb790, 5, none⟩ (.int .i64 t823)).setCell ⟨gb790, 6, none⟩ (.string t824)).setCell ⟨gb790, 7, none⟩ (.slice Ao58 t825.length co58)) w.heap.size (fun k_ => (w.heap.size ≤ k_) ∧ some k_ ≠ (.slice (some ad791) t757.length co27 : Value).ownBlock ∧ some k_ ≠ (.slice Ao49 y815.length co49 : Value).ownBlock ∧ k_ ≠ gb756 ∧ k_ ≠ gb790 ∧ k_ ≠ g) (.slice A791_0 ((rd_T143 t757 a2).f0).length c791_0) ((rd_T143 t757 a2).f0)) := ⟨vfV (Kd.V_mono HL791_0.out (fun k_ hk => (⟨hk, hk.1.2.2.2.1⟩ : _ ∧ k_ ≠ gb790)))⟩
        have n3_ : Aside0 (Kd.V (Kd.int .i64) 3 ((((((((w50.setCell ⟨gb790, 0, none⟩ (.int .i64 t818)).setCell ⟨gb790, 1, none⟩ (.int .i64 t819)).setCell ⟨gb790, 2, none⟩ (.int .i64 t820)).setCell ⟨gb790, 3, none⟩ (.int .i64 t821)).setCell ⟨gb790, 4, none⟩ (.string t822)).setCell ⟨gb790, 5, none⟩ (.int .i64 t823)).setCell ⟨gb790, 6, none⟩ (.string t824)).setCell ⟨gb790, 7, none⟩ (.slice Ao58 t825.length co58)) w.heap.size (fun k_ => (w.heap.size ≤ k_) ∧ some k_ ≠ (.slice (some ad791) t757.length co27 : Value).ownBlock ∧ some k_ ≠ (.slice Ao49 y815.length co49 : Value).ownBlock ∧ k_ ≠ gb756 ∧ k_ ≠ gb790 ∧ k_ ≠ g) (.slice A791_1 ((rd_T143 t757 a2).f1).length c791_1) ((rd_T143 t757 a2).f1)) := ⟨vfV (Kd.V_mono HL791_1.out (fun k_ hk => (⟨hk, hk.1.2.2.2.1⟩ : _ ∧ k_ ≠ gb790)))⟩
        have n4_ : Aside0 (Kd.V Kd.string 9 ((((((((w50.setCell ⟨gb790, 0, none⟩ (.int .i64 t818)).setCell ⟨gb790, 1, none⟩ (.int .i64 t819)).setCell ⟨gb790, 2, none⟩ (.int .i64 t820)).setCell ⟨gb790, 3, none⟩ (.int .i64 t821)).setCell ⟨gb790, 4, none⟩ (.string t822)).setCell ⟨gb790, 5, none⟩ (.int .i64 t823)).setCell ⟨gb790, 6, none⟩ (.string t824)).setCell ⟨gb790, 7, none⟩ (.slice Ao58 t825.length co58)) w.heap.size (fun k_ => (w.heap.size ≤ k_) ∧ some k_ ≠ (.slice (some ad791) t757.length co27 : Value).ownBlock ∧ some k_ ≠ (.slice Ao49 y815.length co49 : Value).ownBlock ∧ k_ ≠ gb756 ∧ k_ ≠ gb790 ∧ k_ ≠ g) (.slice A798_0 ((rd_T143 t757 a2).f0).length c798_0) ((rd_T143 t757 a2).f0)) := ⟨vfV (Kd.V_mono HL798_0.out (fun k_ hk => (⟨hk, hk.1.1.2.2.1⟩ : _ ∧ k_ ≠ gb790)))⟩
        have n5_ : Aside0 (Kd.V (Kd.int .i64) 3 ((((((((w50.setCell ⟨gb790, 0, none⟩ (.int .i64 t818)).setCell ⟨gb790, 1, none⟩ (.int .i64 t819)).setCell ⟨gb790, 2, none⟩ (.int .i64 t820)).setCell ⟨gb790, 3, none⟩ (.int .i64 t821)).setCell ⟨gb790, 4, none⟩ (.string t822)).setCell ⟨gb790, 5, none⟩ (.int .i64 t823)).setCell ⟨gb790, 6, none⟩ (.string t824)).setCell ⟨gb790, 7, none⟩ (.slice Ao58 t825.length co58)) w.heap.size (fun k_ => (w.heap.size ≤ k_) ∧ some k_ ≠ (.slice (some ad791) t757.length co27 : Value).ownBlock ∧ some k_ ≠ (.slice Ao49 y815.length co49 : Value).ownBlock ∧ k_ ≠ gb756 ∧ k_ ≠ gb790 ∧ k_ ≠ g) (.slice (some ad799) ((rd_T143 t757 a2).f1).length c798_1) ((rd_T143 t757 a2).f1)) := ⟨vfV (Kd.V_mono HL798_1.out (fun k_ hk => (⟨hk, hk.1.1.2.2.1⟩ : _ ∧ k_ ≠ gb790)))⟩
        have n6_ : Aside0 (Kd.V k31 31 ((((((((w50.setCell ⟨gb790, 0, none⟩ (.int .i64 t818)).setCell ⟨gb790, 1, none⟩ (.int .i64 t819)).setCell ⟨gb790, 2, none⟩ (.int .i64 t820)).setCell ⟨gb790, 3, none⟩ (.int .i64 t821)).setCell ⟨gb790, 4, none⟩ (.string t822)).setCell ⟨gb790, 5, none⟩ (.int .i64 t823)).setCell ⟨gb790, 6, none⟩ (.string t824)).setCell ⟨gb790, 7, none⟩ (.slice Ao58 t825.length co58)) w.heap.size (fun k_ => (w.heap.size ≤ k_) ∧ some k_ ≠ (.slice (some ad791) t757.length co27 : Value).ownBlock ∧ some k_ ≠ (.slice Ao49 y815.length co49 : Value).ownBlock ∧ k_ ≠ gb756 ∧ k_ ≠ gb790 ∧ k_ ≠ g) (.slice Ao46 t807.length co46) t807) := ⟨vfV (Kd.V_mono HO809.out (fun k_ hk => (⟨hk, hk.1.2.2.2.1⟩ : _ ∧ k_ ≠ gb790)))⟩
        have n7_ : Aside0 (Kd.N k31 31 ((((((((w50.setCell ⟨gb790, 0, none⟩ (.int .i64 t818)).setCell ⟨gb790, 1, none⟩ (.int .i64 t819)).setCell ⟨gb790, 2, none⟩ (.int .i64 t820)).setCell ⟨gb790, 3, none⟩ (.int .i64 t821)).setCell ⟨gb790, 4, none⟩ (.string t822)).setCell ⟨gb790, 5, none⟩ (.int .i64 t823)).setCell ⟨gb790, 6, none⟩ (.string t824)).setCell ⟨gb790, 7, none⟩ (.slice Ao58 t825.length co58)) w.heap.size (fun k_ => (w.heap.size ≤ k_) ∧ some k_ ≠ (.slice (some ad791) t757.length co27 : Value).ownBlock ∧ k_ ≠ gb756 ∧ k_ ≠ gb790 ∧ k_ ≠ g) (.slice Ao49 y815.length co49) y815) := ⟨vfN HO817.out⟩
        have n8_ : Aside0 (Kd.V k31 31 ((((((((w50.setCell ⟨gb790, 0, none⟩ (.int .i64 t818)).setCell ⟨gb790, 1, none⟩ (.int .i64 t819)).setCell ⟨gb790, 2, none⟩ (.int .i64 t820)).setCell ⟨gb790, 3, none⟩ (.int .i64 t821)).setCell ⟨gb790, 4, none⟩ (.string t822)).setCell ⟨gb790, 5, none⟩ (.int .i64 t823)).setCell ⟨gb790, 6, none⟩ (.string t824)).setCell ⟨gb790, 7, none⟩ (.slice Ao58 t825.length co58)) w.heap.size (fun k_ => (w.heap.size ≤ k_) ∧ some k_ ≠ (.slice (some ad791) t757.length co27 : Value).ownBlock ∧ k_ ≠ gb756 ∧ k_ ≠ gb790 ∧ k_ ≠ g) (.slice Ao58 t825.length co58) t825) := ⟨vfV HO827.out⟩
        have n9_ : Aside0 (((((((((w50.setCell ⟨gb790, 0, none⟩ (.int .i64 t818)).setCell ⟨gb790, 1, none⟩ (.int .i64 t819)).setCell ⟨gb790, 2, none⟩ (.int .i64 t820)).setCell ⟨gb790, 3, none⟩ (.int .i64 t821)).setCell ⟨gb790, 4, none⟩ (.string t822)).setCell ⟨gb790, 5, none⟩ (.int .i64 t823)).setCell ⟨gb790, 6, none⟩ (.string t824)).setCell ⟨gb790, 7, none⟩ (.slice Ao58 t825.length co58)).heap[gb756]? = some (.cells #[.int .i64 0, .int .i64 0, .int .i64 0, .int .i64 0, .string (⟨#[]⟩ : ByteArray), .int .i64 0, .string (⟨#[]⟩ : ByteArray), .slice none 0 0] 31 (0, 0))) := ⟨bp BK756.out⟩
        have n10_ : Aside0 (((((((((w50.setCell ⟨gb790, 0, none⟩ (.int .i64 t818)).setCell ⟨gb790, 1, none⟩ (.int .i64 t819)).setCell ⟨gb790, 2, none⟩ (.int .i64 t820)).setCell ⟨gb790, 3, none⟩ (.int .i64 t821)).setCell ⟨gb790, 4, none⟩ (.string t822)).setCell ⟨gb790, 5, none⟩ (.int .i64 t823)).setCell ⟨gb790, 6, none⟩ (.string t824)).setCell ⟨gb790, 7, none⟩ (.slice Ao58 t825.length co58)).heap[gb790]? = some (.cells #[.int .i64 t818, .int .i64 t819, .int .i64 t820, .int .i64 t821, .string t822, .int .i64 t823, .string t824, .slice Ao58 t825.length co58] 31 (0, 0))) := ⟨bp BK790.out⟩
        have n11_ : Aside0 (IsS63 w0 ((((((((w50.setCell ⟨gb790, 0, none⟩ (.int .i64 t818)).setCell ⟨gb790, 1, none⟩ (.int .i64 t819)).setCell ⟨gb790, 2, none⟩ (.int .i64 t820)).setCell ⟨gb790, 3, none⟩ (.int .i64 t821)).setCell ⟨gb790, 4, none⟩ (.string t822)).setCell ⟨gb790, 5, none⟩ (.int .i64 t823)).setCell ⟨gb790, 6, none⟩ (.string t824)).setCell ⟨gb790, 7, none⟩ (.slice Ao58 t825.length co58)) g s0_0 t828 t829 t830 t831 t832) := ⟨hz HI0.out⟩
        have n12_ : Aside0 (KeepBut w ((((((((w50.setCell ⟨gb790, 0, none⟩ (.int .i64 t818)).setCell ⟨gb790, 1, none⟩ (.int .i64 t819)).setCell ⟨gb790, 2, none⟩ (.int .i64 t820)).setCell ⟨gb790, 3, none⟩ (.int .i64 t821)).setCell ⟨gb790, 4, none⟩ (.string t822)).setCell ⟨gb790, 5, none⟩ (.int .i64 t823)).setCell ⟨gb790, 6, none⟩ (.string t824)).setCell ⟨gb790, 7, none⟩ (.slice Ao58 t825.length co58)) g none) := ⟨kz HK.out⟩
        have n13_ : Aside0 (Below w0.heap.size w0 ((((((((w50.setCell ⟨gb790, 0, none⟩ (.int .i64 t818)).setCell ⟨gb790, 1, none⟩ (.int .i64 t819)).setCell ⟨gb790, 2, none⟩ (.int .i64 t820)).setCell ⟨gb790, 3, none⟩ (.int .i64 t821)).setCell ⟨gb790, 4, none⟩ (.string t822)).setCell ⟨gb790, 5, none⟩ (.int .i64 t823)).setCell ⟨gb790, 6, none⟩ (.string t824)).setCell ⟨gb790, 7, none⟩ (.slice Ao58 t825.length co58))) := ⟨bz HB.out⟩
        (try clear HO_7)
        (try clear HO_791007)
        (try clear HL791_0)
        (try clear HL791_1)
        (try clear HL798_0)
        (try clear HL798_1)
        (try clear HO809)
        (try clear HO817)
        (try clear HO827)
        (try clear BK756)
        (try clear BK790)
        (try clear HI0)
        (try clear HK)
        (try clear HB)
        generalize ((((((((w50.setCell ⟨gb790, 0, none⟩ (.int .i64 t818)).setCell ⟨gb790, 1, none⟩ (.int .i64 t819)).setCell ⟨gb790, 2, none⟩ (.int .i64 t820)).setCell ⟨gb790, 3, none⟩ (.int .i64 t821)).setCell ⟨gb790, 4, none⟩ (.string t822)).setCell ⟨gb790, 5, none⟩ (.int .i64 t823)).setCell ⟨gb790, 6, none⟩ (.string t824)).setCell ⟨gb790, 7, none⟩ (.slice Ao58 t825.length co58)) = w60 at n0_ n1_ n2_ n3_ n4_ n5_ n6_ n7_ n8_ n9_ n10_ n11_ n12_ n13_ ⊢
        have HO_7 := n0_
        have HO_791007 := n1_
        have HL791_0 := n2_
        have HL791_1 := n3_
        have HL798_0 := n4_
        have HL798_1 := n5_
        have HO809 := n6_
        have HO817 := n7_
        have HO827 := n8_
        have BK756 := n9_
        have BK790 := n10_
        have HI0 := n11_
        have HK := n12_
        have HB := n13_
        clear n0_ n1_ n2_ n3_ n4_ n5_ n6_ n7_ n8_ n9_ n10_ n11_ n12_ n13_
        have p833 : 0 ≤ (a2 : Int) := of_decide_eq_true tz
        have q833 : a2 < (t757.length : Int) := of_decide_eq_true tz
        obtain ⟨ad833, A833_0, c833_0, A833_1, c833_1, e833, hx833_0, hx833_1, hx833_2, hl833_0, hi833_0, hl833_1, hi833_1⟩ := at_T143 (Kd.N_reads' HO_7.out).2.2 a2 p833 q833
        obtain rfl : ad791 = ad833 := (by injection e833)
        obtain ⟨ce833, hce833, hMe833, hcc833⟩ := Kd.N_get HO_7.out z143 a2 p833 (by first | exact q833 | exact of_decide_eq_true tz | (have e_ := (Kd.N_reads' HO_7.out).1; omega))
        obtain ⟨ua833_0, uc833_0, ua833_1, uc833_1, rfl, ul833_0, ge833_0, ul833_1, ge833_1⟩ := k143_openF hMe833
        have hv833_0 := hcc833 0 _ rfl
        rw [Nat.add_zero] at hv833_0
        replace hv833_0 := Option.some.inj (hv833_0.symm.trans hx833_0)
        injection hv833_0 with hva_ hvn_ hvc_
        rw [hva_] at ge833_0
        rw [hvc_] at ul833_0
        have HL833_0 := am (show Kd.V Kd.string 9 _ w.heap.size _ _ ((rd_T143 t757 a2).f0) from Kd.V_mk ul833_0 ge833_0)
        clear hva_ hvn_ hvc_ ge833_0 ul833_0
        have hv833_1 := hcc833 1 _ rfl
        rw [add_field _ _ 1 (by omega)] at hv833_1
        replace hv833_1 := Option.some.inj (hv833_1.symm.trans hx833_1)
        injection hv833_1 with hva_ hvn_ hvc_
        rw [hva_] at ge833_1
        rw [hvc_] at ul833_1
        have HL833_1 := am (show Kd.V (Kd.int .i64) 3 _ w.heap.size _ _ ((rd_T143 t757 a2).f1) from Kd.V_mk ul833_1 ge833_1)
        clear hva_ hvn_ hvc_ ge833_1 ul833_1 hcc833 hce833
        have HR833_0 := am hi833_0
        have HC833_0 := am hl833_0
        clear hi833_0 hl833_0
        have HR833_1 := am hi833_1
        have HC833_1 := am hl833_1
        clear hi833_1 hl833_1
        replace p833 := eq_true p833
        replace q833 := eq_true q833
        go_upto_if 64 with (fail)
        have H := HC40.out
        clear HC40
        clear Z41_0 Z41_1 Z41_2 Z41_3 Z41_4 Z41_5 F41_1 F41_2 F41_3 F41_4 F41_5 hx798_0 hx799_0 hx833_0 hx798_1 hx798_2 hx833_1 hx833_2
        obtain ⟨bq61, hbq61⟩ : ∃ b_ : Bool, b_ = ((rd_T143 t757 a2).f2) := ⟨_, rfl⟩
        replace H : (if bq61 = true then (some (t818, t819, t820, t821, t822, t823, t824, t825, t828, t829, t830, t831, t832)) else (expr_Parser_chain.l0 k1 a1 a2 t757 s0_0 t828 t829 t830 t831 t832 t818 t819 t820 t821 t822 t823 t824 t825)) = some (r1, r2, r3, r4, r5, r6, r7, r8, r9, r10, r11, r12, r13) := by rw [← hbq61] at H; exact H
        have Nbq61 := am hbq61
        clear hbq61
        (try rw [← Nbq61.out])
        by_cases c62 : bq61 = true
        ·subst c62
         replace H := ift H
         simp only [Option.some.injEq, Prod.mk.injEq] at H
         obtain ⟨rfl, rfl, rfl, rfl, rfl, rfl, rfl, rfl, rfl, rfl, rfl, rfl, rfl⟩ := H
         have hnb63 := NB790_756.out
         have hnc63 := NB756_790.out
         have hnb64 := NB790_0.out
         have hnc64 := NB0_790.out
         obtain ⟨Z65_0, Z65_1, Z65_2, Z65_3, Z65_4, Z65_5, Z65_6, Z65_7, F65_0, F65_1, F65_2, F65_3, F65_4, F65_5, F65_6, F65_7⟩ := cz8 BK790.out
         have hnb66 := NB756_0.out
         have hnc66 := NB0_756.out
         obtain ⟨Z67_0, Z67_1, Z67_2, Z67_3, Z67_4, Z67_5, Z67_6, Z67_7, F67_0, F67_1, F67_2, F67_3, F67_4, F67_5, F67_6, F67_7⟩ := cz8 BK756.out
         go_wp2
         refine bodyPost_ret (results_cell_row rfl _ _ gb756 31 #[.int .i64 t818, .int .i64 t819, .int .i64 t820, .int .i64 t821, .string t822, .int .i64 t823, .string t824, .slice Ao58 t825.length co58] (0, 0) _ rfl (bp BK756.out) Tryz.underlying31 rfl (by kernel_rfl)) rfl ?_
         exact ⟨_, az, by (with_reducible repeat (first | apply Kd.V_alloc | apply Kd.V_drewN | apply Kd.V_drew)); exact Kd.V_mono (Kd.V_far (p := ⟨gb756, 7, none⟩) (Kd.V_far (p := ⟨gb756, 6, none⟩) (Kd.V_far (p := ⟨gb756, 5, none⟩) (Kd.V_far (p := ⟨gb756, 4, none⟩) (Kd.V_far (p := ⟨gb756, 3, none⟩) (Kd.V_far (p := ⟨gb756, 2, none⟩) (Kd.V_far (p := ⟨gb756, 1, none⟩) (Kd.V_far (p := ⟨gb756, 0, none⟩) (Kd.V_mono HO827.out (fun k_ hk => (⟨hk, hk.2.2.1⟩ : _ ∧ k_ ≠ gb756))) (fun _ hk => hk.2) (.int .i64 t818)) (fun _ hk => hk.2) (.int .i64 t819)) (fun _ hk => hk.2) (.int .i64 t820)) (fun _ hk => hk.2) (.int .i64 t821)) (fun _ hk => hk.2) (.string t822)) (fun _ hk => hk.2) (.int .i64 t823)) (fun _ hk => hk.2) (.string t824)) (fun _ hk => hk.2) (.slice Ao58 t825.length co58)) (fun _ hk => hk.1.1), hz HI0.out, bz HB.out, kz HK.out⟩
        replace c62 := Bool.eq_false_iff.mpr c62
        subst c62
        replace H := iff_ H
        have H' := am H
        clear H
        go_wp2
        go_roundg k1
        case measure => have := HK1.out; omega
        case rel => exact ⟨(t828), (t829), (t830), (t831), (t832), (t818), (t819), (t820), (t821), (t822), (t823), (t824), (t825), (.slice Ao58 t825.length co58), H', ⟨by have := HK1.out; omega⟩, ⟨by (with_reducible repeat (first | apply Kd.N_alloc | apply Kd.N_drewN | apply Kd.N_drew)); exact Kd.N_mono HO_7.out (fun _ hk => ⟨hk.1, ⟨hk.2.2.1, ⟨hk.2.2.2.1, hk.2.2.2.2⟩⟩⟩)⟩, ⟨vv HO827.out⟩, ⟨bk BK756.out⟩, ⟨bk BK790.out⟩, ⟨hz HI0.out⟩, ⟨kz HK.out⟩, ⟨bz HB.out⟩⟩
       rw [if_neg c37] at H
       exact absurd H (by simp)
      rw [if_neg c36] at H
      exact absurd H (by simp)
     rw [if_neg c23] at H
     exact absurd H (by simp)
    rw [if_neg c22] at H
    exact absurd H (by simp)
   rw [if_neg c21] at H
   exact absurd H (by simp)
end Go.Proofs.YtgkemhgihbfmmaaGreatDoor.PA
end
section
namespace Go.Proofs.YtgkemhgihbfmmaaGreatDoor.PA
open Go.RowKit Go.Proofs.YtgkemhgihbfmmaaGreatDoorW.PrintWords Go.Proofs.YtgkemhgihbfmmaaGreatDoorW.PrintLast Go.Proofs.YtgkemhgihbfmmaaGreatDoorW.PrintMore
attribute [local go_sem] max2_int min2_int max_two min_two max_three min_three max_four min_four isSome_set str_gtr
set_option linter.unusedVariables false
set_option linter.unusedSimpArgs false
def expr_Parser_Expr.T9 : Bool × List (List Nat × List Nat) := (true, [([], []), ([], []), ([], []), ([], []), ([], []), ([3, 4], [3, 4]), ([1, 2, 5], [1, 2, 5]), ([0, 6, 5], [0, 6]), ([7, 7, 0, 1, 2, 3, 4, 5, 6, 7], [7])])
def expr_Parser_Expr.B9 : List Nat := [0, 0, 0, 0, 0, 24, 62, 127, 255]
theorem expr_Parser_Expr.tab9 : rtab .any (opsOf Tryz.f31 9) = expr_Parser_Expr.T9 := by kernel_rfl
theorem expr_Parser_Expr.bits9 : waitsOk expr_Parser_Expr.T9.2 expr_Parser_Expr.B9 = true := by kernel_rfl
set_option maxHeartbeats 8000000 in
set_option maxRecDepth 100000 in
theorem expr_Parser_Expr.step (k : Nat) (ih_expr_Parser_prefix : ∀ k', k' < k → ∀ (g : Nat) (s0_0 : List (S136)) (s0_1 s0_2 s0_3 s0_4 s0_5 a1 r1 r2 r3 r4 : Int) (r5 : ByteArray) (r6 : Int) (r7 : ByteArray) (r8 : List (S31)) (r9 r10 r11 r12 r13 : Int) (w0 w : World) (hI : IsS63 w0 w g s0_0 s0_1 s0_2 s0_3 s0_4 s0_5) (hB : Below w0.heap.size w0 w) (h : expr_Parser_prefix.f k' s0_0 s0_1 s0_2 s0_3 s0_4 s0_5 a1 = some (r1, r2, r3, r4, r5, r6, r7, r8, r9, r10, r11, r12, r13)),
  Calls Tryz.prog 109 #[.pointer (some ⟨g, 0, none⟩), .int .i64 a1] w fun e w' => ∃ v7_ : Value, e = .returned (.agg #[.int .i64 r1, .int .i64 r2, .int .i64 r3, .int .i64 r4, .string r5, .int .i64 r6, .string r7, v7_]) ∧ Kd.V k31 31 w' w.heap.size (fun k_ => (w.heap.size ≤ k_)) v7_ r8 ∧ IsS63 w0 w' g s0_0 r9 r10 r11 r12 r13 ∧ Below w0.heap.size w0 w' ∧ KeepBut w w' g none) (ih_expr_Parser_chain : ∀ k', k' < k → ∀ (g : Nat) (s0_0 : List (S136)) (s0_1 s0_2 s0_3 s0_4 s0_5 a1 a2 r1 r2 r3 r4 : Int) (r5 : ByteArray) (r6 : Int) (r7 : ByteArray) (r8 : List (S31)) (r9 r10 r11 r12 r13 : Int) (w0 w : World) (hI : IsS63 w0 w g s0_0 s0_1 s0_2 s0_3 s0_4 s0_5) (hB : Below w0.heap.size w0 w) (h : expr_Parser_chain.f k' s0_0 s0_1 s0_2 s0_3 s0_4 s0_5 a1 a2 = some (r1, r2, r3, r4, r5, r6, r7, r8, r9, r10, r11, r12, r13)),
  Calls Tryz.prog 64 #[.pointer (some ⟨g, 0, none⟩), .int .i64 a1, .int .i64 a2] w fun e w' => ∃ v7_ : Value, e = .returned (.agg #[.int .i64 r1, .int .i64 r2, .int .i64 r3, .int .i64 r4, .string r5, .int .i64 r6, .string r7, v7_]) ∧ Kd.V k31 31 w' w.heap.size (fun k_ => (w.heap.size ≤ k_)) v7_ r8 ∧ IsS63 w0 w' g s0_0 r9 r10 r11 r12 r13 ∧ Below w0.heap.size w0 w' ∧ KeepBut w w' g none) (ih_expr_Parser_Expr : ∀ k', k' < k → ∀ (g : Nat) (s0_0 : List (S136)) (s0_1 s0_2 s0_3 s0_4 s0_5 a1 r1 r2 r3 r4 : Int) (r5 : ByteArray) (r6 : Int) (r7 : ByteArray) (r8 : List (S31)) (r9 r10 r11 r12 r13 : Int) (w0 w : World) (hI : IsS63 w0 w g s0_0 s0_1 s0_2 s0_3 s0_4 s0_5) (hB : Below w0.heap.size w0 w) (h : expr_Parser_Expr.f k' s0_0 s0_1 s0_2 s0_3 s0_4 s0_5 a1 = some (r1, r2, r3, r4, r5, r6, r7, r8, r9, r10, r11, r12, r13)),
  Calls Tryz.prog 31 #[.pointer (some ⟨g, 0, none⟩), .int .i64 a1] w fun e w' => ∃ v7_ : Value, e = .returned (.agg #[.int .i64 r1, .int .i64 r2, .int .i64 r3, .int .i64 r4, .string r5, .int .i64 r6, .string r7, v7_]) ∧ Kd.V k31 31 w' w.heap.size (fun k_ => (w.heap.size ≤ k_)) v7_ r8 ∧ IsS63 w0 w' g s0_0 r9 r10 r11 r12 r13 ∧ Below w0.heap.size w0 w' ∧ KeepBut w w' g none) : ∀ (g : Nat) (s0_0 : List (S136)) (s0_1 s0_2 s0_3 s0_4 s0_5 a1 r1 r2 r3 r4 : Int) (r5 : ByteArray) (r6 : Int) (r7 : ByteArray) (r8 : List (S31)) (r9 r10 r11 r12 r13 : Int) (w0 w : World) (hI : IsS63 w0 w g s0_0 s0_1 s0_2 s0_3 s0_4 s0_5) (hB : Below w0.heap.size w0 w) (h : expr_Parser_Expr.f k s0_0 s0_1 s0_2 s0_3 s0_4 s0_5 a1 = some (r1, r2, r3, r4, r5, r6, r7, r8, r9, r10, r11, r12, r13)),
  Calls Tryz.prog 31 #[.pointer (some ⟨g, 0, none⟩), .int .i64 a1] w fun e w' => ∃ v7_ : Value, e = .returned (.agg #[.int .i64 r1, .int .i64 r2, .int .i64 r3, .int .i64 r4, .string r5, .int .i64 r6, .string r7, v7_]) ∧ Kd.V k31 31 w' w.heap.size (fun k_ => (w.heap.size ≤ k_)) v7_ r8 ∧ IsS63 w0 w' g s0_0 r9 r10 r11 r12 r13 ∧ Below w0.heap.size w0 w' ∧ KeepBut w w' g none := by
 intro g s0_0 s0_1 s0_2 s0_3 s0_4 s0_5 a1 r1 r2 r3 r4 r5 r6 r7 r8 r9 r10 r11 r12 r13 w0 w hI hB h
 cases k with
 | zero => exact absurd h (by simp [expr_Parser_Expr.f])
 | succ k =>
 simp only [expr_Parser_Expr.f] at h
 have hu31 := Tryz.underlying31
 have HI0 := am hI
 have HK := am (KeepBut.refl w g none)
 have HL := am hB.size
 clear hI
 have HW0 := am hB.size
 have HB := am hB
 clear hB
 have H : (if a1 > 64 then (none) else (if s0_4 = 0 then ((expr_Parser_Take.f k s0_0 s0_1 s0_2 s0_3 s0_4 s0_5 (⟨#[105, 102]⟩ : ByteArray)).bind fun bt835 => (expr_Parser_Expr.j0 k a1 (!bt835.1) s0_0 bt835.2.1 bt835.2.2.1 bt835.2.2.2.1 bt835.2.2.2.2.1 bt835.2.2.2.2.2)) else (expr_Parser_Expr.j0 k a1 true s0_0 s0_1 s0_2 s0_3 s0_4 s0_5))) = some (r1, r2, r3, r4, r5, r6, r7, r8, r9, r10, r11, r12, r13) := h
 clear h
 by_cases c3 : a1 > 64
 ·rw [if_pos c3] at H
  exact absurd H (by simp)
 rw [if_neg c3] at H
 have c3b0 : decide (64 < a1) = false := decide_eq_false c3
 clear c3
 have HC4 := am H
 clear H
 go_enter Tryz.func31, Tryz.ntmps31
 go_upto_region 3 with (first | ((with_reducible refine gate_dst (N := 4) rfl ?_); refine bev (#[.int .i64 0, .int .i64 0, .int .i64 0, .int .i64 0, .string (⟨#[]⟩ : ByteArray), .int .i64 0, .string (⟨#[]⟩ : ByteArray), .slice none 0 0]) 31 ?_; intro gb834 hg w5 hbox hb; replace HB := sb HB hb; have BK834 := am (hbox); have GW834 := gk hg HK; have GE834 := am (Nat.le_trans HW0.out GW834.out); replace HK := am (KeepBut.trans (kz HK.out) (KeepBut.of_below hb g none) (.inl rfl)); have NB0_834 := am ((nlt (a := g) hg (IsS63.lt (show IsS63 w0 _ g s0_0 s0_1 s0_2 s0_3 s0_4 s0_5 from hz HI0.out)))); have NB834_0 := am ((ngt (a := g) hg (IsS63.lt (show IsS63 w0 _ g s0_0 s0_1 s0_2 s0_3 s0_4 s0_5 from hz HI0.out)))); replace HI0 := am (IsS63.below (hz HI0.out) hb); clear hb hbox hg))
 (try simp only [Act.put, List.setIfInBounds_toArray, List.set_cons_zero, List.set_cons_succ])
 go_cut [20] (fun v20 wc => ∃ (kq : Nat) (x20_3 : Bool) (x1001_3 x1002_3 x1003_3 x1004_3 x1005_3 : Int), v20 = .bool x20_3 ∧ Aside0 (expr_Parser_Expr.j0 kq a1 x20_3 s0_0 x1001_3 x1002_3 x1003_3 x1004_3 x1005_3 = some (r1, r2, r3, r4, r5, r6, r7, r8, r9, r10, r11, r12, r13)) ∧ Aside0 (kq ≤ k) ∧ Aside0 (wc.heap[gb834]? = some (.cells #[.int .i64 0, .int .i64 0, .int .i64 0, .int .i64 0, .string (⟨#[]⟩ : ByteArray), .int .i64 0, .string (⟨#[]⟩ : ByteArray), (.slice none 0 0)] 31 (0, 0))) ∧ Aside0 (IsS63 w0 wc g s0_0 x1001_3 x1002_3 x1003_3 x1004_3 x1005_3) ∧ Aside0 (KeepBut w wc g none) ∧ Aside0 (Below w0.heap.size w0 wc))
 case first =>
  have H := HC4.out
  clear HC4
  by_cases c6 : s0_4 = 0
  ·replace H := ipe c6 H
   obtain ⟨H, c6b0, c6b1⟩ := H
   clear c6
   (first | rw [c6b0] | (simp only [i64_w, i32_w]; rw [c6b0]) | skip)
   replace H := obe6 H
   obtain ⟨t835, t836, t837, t838, t839, t840, A7, H⟩ := H
   have H' := am H
   clear H
   obtain ⟨ASz8_0, cSz8_0, HSz8_0, Z8_0, Z8_1, Z8_2, Z8_3, Z8_4, Z8_5, F8_1, F8_2, F8_3, F8_4, F8_5⟩ := open63 HI0.out
   go_wp2_with (first | (go_at_call 63; (with_reducible refine (expr_Parser_Take.calls k g s0_0 s0_1 s0_2 s0_3 s0_4 s0_5 (⟨#[105, 102]⟩ : ByteArray) t835 t836 t837 t838 t839 t840 w0 _ ?side1 ?side2 A7.out).mono ?_); (case side1 => exact hz HI0.out); (case side2 => exact bz HB.out); rintro e w9 ⟨rfl, hi, hb, hk⟩; replace BK834 := am (KeepBut.blk hk (bk BK834.out) NB834_0.out (by simp)); replace HK := am (KeepBut.trans (kz HK.out) hk (.inl rfl)); replace HB := am (hb); replace HI0 := am (hi); clear hb hk hi))
   go_meet
   case rel => exact ⟨_, (!t835), (t836), (t837), (t838), (t839), (t840), sz, H', ⟨oz⟩, ⟨bk BK834.out⟩, ⟨hz HI0.out⟩, ⟨kz HK.out⟩, ⟨bz HB.out⟩⟩
  replace H := ine c6 H
  obtain ⟨H, c6b0, c6b1⟩ := H
  (first | rw [c6b0] | (simp only [i64_w, i32_w]; rw [c6b0]) | skip)
  have H' := am H
  clear H
  obtain ⟨ASz10_0, cSz10_0, HSz10_0, Z10_0, Z10_1, Z10_2, Z10_3, Z10_4, Z10_5, F10_1, F10_2, F10_3, F10_4, F10_5⟩ := open63 HI0.out
  go_wp2
  go_meet
  case rel => exact ⟨_, (true), (s0_1), (s0_2), (s0_3), (s0_4), (s0_5), sz, H', ⟨oz⟩, ⟨bk BK834.out⟩, ⟨hz HI0.out⟩, ⟨kz HK.out⟩, ⟨bz HB.out⟩⟩
 case rest =>
  clear HC4
  try clear c3; try clear c3b0
  obtain ⟨kq, x20_3, x1001_3, x1002_3, x1003_3, x1004_3, x1005_3, rfl, HA, HJ3, BK834, HI0, HK, HB⟩ := hcut
  cases kq with
  | zero => exact absurd HA.out (by simp [expr_Parser_Expr.j0])
  | succ kj3 =>
   have H := HA.out
   clear HA
   simp only [expr_Parser_Expr.j0] at H
   by_cases c11 : x20_3 = true
   ·subst c11
    replace H := ift H
    replace H := obe13 H
    obtain ⟨t841, t842, t843, t844, t845, t846, t847, t848, t851, t852, t853, t854, t855, A12, H⟩ := H
    simp only [Option.some.injEq, Prod.mk.injEq] at H
    obtain ⟨rfl, rfl, rfl, rfl, rfl, rfl, rfl, rfl, rfl, rfl, rfl, rfl, rfl⟩ := H
    go_wp2_with (first | ((with_reducible refine gate_callee (f := 64) rfl ?_); refine gl_ (some 23) Tryz.func64 (by kernel_rfl) #[.pointer (some ⟨g, 0, none⟩), .int .i64 a1, .int .i64 0] rfl ?_; (with_reducible refine (ih_expr_Parser_chain kj3 (by have := HJ3.out; omega) g s0_0 x1001_3 x1002_3 x1003_3 x1004_3 x1005_3 a1 0 t841 t842 t843 t844 t845 t846 t847 t848 t851 t852 t853 t854 t855 w0 _ ?side1 ?side2 A12.out).mono ?_); (case side1 => exact hz HI0.out); (case side2 => exact bz HB.out); rintro e w13 ⟨v849, rfl, ho0, hi, hb, hk⟩; refine ⟨_, rfl, ?_⟩; have HO850 := am (Kd.V_lower (Kd.V_mono (ok' := fun k_ => (w.heap.size ≤ k_) ∧ k_ ≠ gb834 ∧ k_ ≠ g) ho0 (fun k_ hk_ => ⟨(Nat.le_trans (keep_size (w := w) (g := g) (row := none) (kz HK.out)) hk_), (Kd.freshB (bk BK834.out) k_ hk_), (IsS63.fresh (hz HI0.out) k_ hk_)⟩)) (keep_size (w := w) (g := g) (row := none) (kz HK.out))); replace BK834 := am (KeepBut.blk hk (bk BK834.out) NB834_0.out (by simp)); replace HK := am (KeepBut.trans (kz HK.out) hk (.inl rfl)); replace HB := am (hb); replace HI0 := am (hi); clear hb hk hi ho0; have hnb14 := NB834_0.out; have hnc14 := NB0_834.out; obtain ⟨Z15_0, Z15_1, Z15_2, Z15_3, Z15_4, Z15_5, Z15_6, Z15_7, F15_0, F15_1, F15_2, F15_3, F15_4, F15_5, F15_6, F15_7⟩ := cz8 BK834.out; obtain ⟨Ao16, co16, eo16⟩ := Kd.V_slice HO850.out; subst eo16))
    refine bodyPost_ret (results_cell_row rfl _ _ gb834 31 #[.int .i64 t841, .int .i64 t842, .int .i64 t843, .int .i64 t844, .string t845, .int .i64 t846, .string t847, .slice Ao16 t848.length co16] (0, 0) _ rfl (bp BK834.out) Tryz.underlying31 rfl (by kernel_rfl)) rfl ?_
    exact ⟨_, az, by (with_reducible repeat (first | apply Kd.V_alloc | apply Kd.V_drewN | apply Kd.V_drew)); exact Kd.V_mono (Kd.V_far (p := ⟨gb834, 7, none⟩) (Kd.V_far (p := ⟨gb834, 6, none⟩) (Kd.V_far (p := ⟨gb834, 5, none⟩) (Kd.V_far (p := ⟨gb834, 4, none⟩) (Kd.V_far (p := ⟨gb834, 3, none⟩) (Kd.V_far (p := ⟨gb834, 2, none⟩) (Kd.V_far (p := ⟨gb834, 1, none⟩) (Kd.V_far (p := ⟨gb834, 0, none⟩) (Kd.V_mono HO850.out (fun k_ hk => (⟨hk, hk.2.1⟩ : _ ∧ k_ ≠ gb834))) (fun _ hk => hk.2) (.int .i64 t841)) (fun _ hk => hk.2) (.int .i64 t842)) (fun _ hk => hk.2) (.int .i64 t843)) (fun _ hk => hk.2) (.int .i64 t844)) (fun _ hk => hk.2) (.string t845)) (fun _ hk => hk.2) (.int .i64 t846)) (fun _ hk => hk.2) (.string t847)) (fun _ hk => hk.2) (.slice Ao16 t848.length co16)) (fun _ hk => hk.1.1), hz HI0.out, bz HB.out, kz HK.out⟩
   replace c11 := Bool.eq_false_iff.mpr c11
   subst c11
   replace H := iff_ H
   replace H := obe13 H
   obtain ⟨t856, t857, t858, t859, t860, t861, t862, t863, t866, t867, t868, t869, t870, A17, H⟩ := H
   replace H := obe5 H
   obtain ⟨t872, t873, t874, t875, t876, A18, H⟩ := H
   replace H := obe13 H
   obtain ⟨t877, t878, t879, t880, t881, t882, t883, t884, t887, t888, t889, t890, t891, A19, H⟩ := H
   replace H := obe5 H
   obtain ⟨t893, t894, t895, t896, t897, A20, H⟩ := H
   replace H := obe13 H
   obtain ⟨t898, t899, t900, t901, t902, t903, t904, t905, t908, t909, t910, t911, t912, A21, H⟩ := H
   obtain ⟨y913, hy913⟩ : ∃ y_ : List (S31), y_ = (([(⟨t856, (⟨t857, (⟨t858, t859⟩ : S23), t860, t861⟩ : S25), t862, t863⟩ : S31), (⟨t877, (⟨t878, (⟨t879, t880⟩ : S23), t881, t882⟩ : S25), t883, t884⟩ : S31), (⟨t898, (⟨t899, (⟨t900, t901⟩ : S23), t902, t903⟩ : S25), t904, t905⟩ : S31)] : List (S31))) := ⟨_, rfl⟩
   replace H : ((expr_Parser_make.f s0_0 t908 t909 t910 t911 t912 17 y913).bind fun bt916 => (some (bt916.1, bt916.2.1, bt916.2.2.1, bt916.2.2.2.1, bt916.2.2.2.2.1, bt916.2.2.2.2.2.1, bt916.2.2.2.2.2.2.1, bt916.2.2.2.2.2.2.2.1, bt916.2.2.2.2.2.2.2.2.1, bt916.2.2.2.2.2.2.2.2.2.1, bt916.2.2.2.2.2.2.2.2.2.2.1, bt916.2.2.2.2.2.2.2.2.2.2.2.1, bt916.2.2.2.2.2.2.2.2.2.2.2.2))) = some (r1, r2, r3, r4, r5, r6, r7, r8, r9, r10, r11, r12, r13) := by first | (rw [hy913]; with_reducible exact H) | (have H2_ := (Option.bind_some _ _).symm.trans H; rw [hy913]; with_reducible exact H2_) | (have H2_ := (Option.bind_some _ _).symm.trans H; with_reducible exact H2_) | with_reducible exact H | (rw [hy913]; exact H) | exact H
   have Ny913 := am hy913
   clear hy913
   replace H := obe13 H
   obtain ⟨t916, t917, t918, t919, t920, t921, t922, t923, t926, t927, t928, t929, t930, A22, H⟩ := H
   simp only [Option.some.injEq, Prod.mk.injEq] at H
   obtain ⟨rfl, rfl, rfl, rfl, rfl, rfl, rfl, rfl, rfl, rfl, rfl, rfl, rfl⟩ := H
   try go_wp2_with (first | ((with_reducible refine gate_callee (f := 31) rfl ?_); refine gl_ (some 26) Tryz.func31 (by kernel_rfl) #[.pointer (some ⟨g, 0, none⟩), .int .i64 a1] rfl ?_; (with_reducible refine (ih_expr_Parser_Expr kj3 (by have := HJ3.out; omega) g s0_0 x1001_3 x1002_3 x1003_3 x1004_3 x1005_3 a1 t856 t857 t858 t859 t860 t861 t862 t863 t866 t867 t868 t869 t870 w0 _ ?side1 ?side2 A17.out).mono ?_); (case side1 => exact hz HI0.out); (case side2 => exact bz HB.out); rintro e w23 ⟨v864, rfl, ho0, hi, hb, hk⟩; refine ⟨_, rfl, ?_⟩; have HO865 := am (Kd.V_lower (Kd.V_mono (ok' := fun k_ => (w.heap.size ≤ k_) ∧ k_ ≠ gb834 ∧ k_ ≠ g) ho0 (fun k_ hk_ => ⟨(Nat.le_trans (keep_size (w := w) (g := g) (row := none) (kz HK.out)) hk_), (Kd.freshB (bk BK834.out) k_ hk_), (IsS63.fresh (hz HI0.out) k_ hk_)⟩)) (keep_size (w := w) (g := g) (row := none) (kz HK.out))); replace BK834 := am (KeepBut.blk hk (bk BK834.out) NB834_0.out (by simp)); replace HK := am (KeepBut.trans (kz HK.out) hk (.inl rfl)); replace HB := am (hb); replace HI0 := am (hi); clear hb hk hi ho0) | ((with_reducible refine gate_dst (N := 5) rfl ?_); refine bev (#[.int .i64 0, .int .i64 0, .int .i64 0, .int .i64 0, .string (⟨#[]⟩ : ByteArray), .int .i64 0, .string (⟨#[]⟩ : ByteArray), .slice none 0 0]) 31 ?_; intro gb871 hg w24 hbox hb; replace HO865 := am (Kd.V_below (Kd.V_elderB (vv HO865.out) gb871 (Nat.le_of_eq hg.symm)) hb); replace HB := sb HB hb; have BK871 := am (hbox); have GW871 := gk hg HK; have GE871 := am (Nat.le_trans HW0.out GW871.out); replace HK := am (KeepBut.trans (kz HK.out) (KeepBut.of_below hb g none) (.inl rfl)); have NB834_871 := na hg BK834; have NB871_834 := nb hg BK834; replace BK834 := kb BK834 hb; have NB0_871 := am ((nlt (a := g) hg (IsS63.lt (show IsS63 w0 _ g s0_0 t866 t867 t868 t869 t870 from hz HI0.out)))); have NB871_0 := am ((ngt (a := g) hg (IsS63.lt (show IsS63 w0 _ g s0_0 t866 t867 t868 t869 t870 from hz HI0.out)))); replace HI0 := am (IsS63.below (hz HI0.out) hb); clear hb hbox hg; have hnb25 := NB871_834.out; have hnc25 := NB834_871.out; have hnb26 := NB871_0.out; have hnc26 := NB0_871.out; obtain ⟨Z27_0, Z27_1, Z27_2, Z27_3, Z27_4, Z27_5, Z27_6, Z27_7, F27_0, F27_1, F27_2, F27_3, F27_4, F27_5, F27_6, F27_7⟩ := cz8 BK871.out; obtain ⟨Ao28, co28, eo28⟩ := Kd.V_slice HO865.out; subst eo28) | ((with_reducible refine gate_callee (f := 65) rfl ?_); refine gl_ (some 28) Tryz.func65 (by kernel_rfl) #[.pointer (some ⟨g, 0, none⟩), .string (⟨#[116, 104, 101, 110]⟩ : ByteArray)] rfl ?_; (with_reducible refine (expr_Parser_Need.calls kj3 g s0_0 t866 t867 t868 t869 t870 (⟨#[116, 104, 101, 110]⟩ : ByteArray) t872 t873 t874 t875 t876 w0 _ ?side1 ?side2 A18.out).mono ?_); (case side1 => exact hz HI0.out); (case side2 => exact bz HB.out); rintro e w29 ⟨rfl, hi, hb, hk⟩; refine ⟨_, rfl, ?_⟩; replace BK834 := am (KeepBut.blk hk (g' := gb834) (o := .cells #[.int .i64 0, .int .i64 0, .int .i64 0, .int .i64 0, .string (⟨#[]⟩ : ByteArray), .int .i64 0, .string (⟨#[]⟩ : ByteArray), .slice none 0 0] 31 (0, 0)) (bp BK834.out) NB834_0.out (by simp)); replace HO865 := am (Kd.V_mono (Kd.V_keep (Kd.V_mono (ok := fun k_ => ((((w.heap.size ≤ k_)) ∧ (k_ ≠ gb834 ∧ k_ ≠ g)) ∧ k_ ≠ gb871)) (by (with_reducible repeat (first | apply Kd.V_alloc | apply Kd.V_drewN | apply Kd.V_drew)); exact (Kd.V_mono (Kd.V_far (p := ⟨gb871, 7, none⟩) (Kd.V_far (p := ⟨gb871, 6, none⟩) (Kd.V_far (p := ⟨gb871, 5, none⟩) (Kd.V_far (p := ⟨gb871, 4, none⟩) (Kd.V_far (p := ⟨gb871, 3, none⟩) (Kd.V_far (p := ⟨gb871, 2, none⟩) (Kd.V_far (p := ⟨gb871, 1, none⟩) (Kd.V_far (p := ⟨gb871, 0, none⟩) (Kd.V_mono HO865.out (fun k_ hk => (⟨hk, hk.2⟩ : _ ∧ k_ ≠ gb871))) (fun _ hk => hk.2) (.int .i64 t856)) (fun _ hk => hk.2) (.int .i64 t857)) (fun _ hk => hk.2) (.int .i64 t858)) (fun _ hk => hk.2) (.int .i64 t859)) (fun _ hk => hk.2) (.string t860)) (fun _ hk => hk.2) (.int .i64 t861)) (fun _ hk => hk.2) (.string t862)) (fun _ hk => hk.2) (.slice Ao28 t863.length co28)) (fun _ h_ => h_.1))) (fun k_ hk_ => (⟨hk_, hk_.1.2.2⟩ : _ ∧ k_ ≠ g))) hk (fun _ h => h.2)) (fun _ h => h.1)); replace BK871 := am (KeepBut.blk hk (g' := gb871) (o := .cells #[.int .i64 t856, .int .i64 t857, .int .i64 t858, .int .i64 t859, .string t860, .int .i64 t861, .string t862, .slice Ao28 t863.length co28] 31 (0, 0)) (bp BK871.out) NB871_0.out (by simp)); replace HK := am (KeepBut.trans (kz HK.out) hk (.inl rfl)); replace HB := am (hb); replace HI0 := am (hi); clear hb hk hi) | ((with_reducible refine gate_callee (f := 31) rfl ?_); refine gl_ (some 31) Tryz.func31 (by kernel_rfl) #[.pointer (some ⟨g, 0, none⟩), .int .i64 a1] rfl ?_; (with_reducible refine (ih_expr_Parser_Expr kj3 (by have := HJ3.out; omega) g s0_0 t872 t873 t874 t875 t876 a1 t877 t878 t879 t880 t881 t882 t883 t884 t887 t888 t889 t890 t891 w0 _ ?side1 ?side2 A19.out).mono ?_); (case side1 => exact hz HI0.out); (case side2 => exact bz HB.out); rintro e w30 ⟨v885, rfl, ho0, hi, hb, hk⟩; refine ⟨_, rfl, ?_⟩; replace HO865 := am (Kd.V_mono (Kd.V_keep (Kd.V_mono (ok := fun k_ => ((((w.heap.size ≤ k_)) ∧ (k_ ≠ gb834 ∧ k_ ≠ g)) ∧ k_ ≠ gb871)) (vv HO865.out) (fun k_ hk_ => (⟨hk_, hk_.1.2.2⟩ : _ ∧ k_ ≠ g))) hk (fun _ h => h.2)) (fun _ h => h.1)); have HO886 := am (Kd.V_lower (Kd.V_mono (ok' := fun k_ => (w.heap.size ≤ k_) ∧ k_ ≠ gb834 ∧ k_ ≠ gb871 ∧ k_ ≠ g) ho0 (fun k_ hk_ => ⟨(Nat.le_trans (keep_size (w := w) (g := g) (row := none) (kz HK.out)) hk_), (Kd.freshB (bk BK834.out) k_ hk_), (Kd.freshB (bk BK871.out) k_ hk_), (IsS63.fresh (hz HI0.out) k_ hk_)⟩)) (keep_size (w := w) (g := g) (row := none) (kz HK.out))); replace BK834 := am (KeepBut.blk hk (bk BK834.out) NB834_0.out (by simp)); replace BK871 := am (KeepBut.blk hk (bk BK871.out) NB871_0.out (by simp)); replace HK := am (KeepBut.trans (kz HK.out) hk (.inl rfl)); replace HB := am (hb); replace HI0 := am (hi); clear hb hk hi ho0) | ((with_reducible refine gate_dst (N := 6) rfl ?_); refine bev (#[.int .i64 0, .int .i64 0, .int .i64 0, .int .i64 0, .string (⟨#[]⟩ : ByteArray), .int .i64 0, .string (⟨#[]⟩ : ByteArray), .slice none 0 0]) 31 ?_; intro gb892 hg w31 hbox hb; replace HO865 := am (Kd.V_below (Kd.V_elderB (vv HO865.out) gb892 (Nat.le_of_eq hg.symm)) hb); replace HO886 := am (Kd.V_below (Kd.V_elderB (vv HO886.out) gb892 (Nat.le_of_eq hg.symm)) hb); replace HB := sb HB hb; have BK892 := am (hbox); have GW892 := gk hg HK; have GE892 := am (Nat.le_trans HW0.out GW892.out); replace HK := am (KeepBut.trans (kz HK.out) (KeepBut.of_below hb g none) (.inl rfl)); have NB834_892 := na hg BK834; have NB892_834 := nb hg BK834; replace BK834 := kb BK834 hb; have NB871_892 := na hg BK871; have NB892_871 := nb hg BK871; replace BK871 := kb BK871 hb; have NB0_892 := am ((nlt (a := g) hg (IsS63.lt (show IsS63 w0 _ g s0_0 t887 t888 t889 t890 t891 from hz HI0.out)))); have NB892_0 := am ((ngt (a := g) hg (IsS63.lt (show IsS63 w0 _ g s0_0 t887 t888 t889 t890 t891 from hz HI0.out)))); replace HI0 := am (IsS63.below (hz HI0.out) hb); clear hb hbox hg; have hnb32 := NB892_834.out; have hnc32 := NB834_892.out; have hnb33 := NB892_871.out; have hnc33 := NB871_892.out; have hnb34 := NB892_0.out; have hnc34 := NB0_892.out; obtain ⟨Z35_0, Z35_1, Z35_2, Z35_3, Z35_4, Z35_5, Z35_6, Z35_7, F35_0, F35_1, F35_2, F35_3, F35_4, F35_5, F35_6, F35_7⟩ := cz8 BK892.out; obtain ⟨Ao36, co36, eo36⟩ := Kd.V_slice HO886.out; subst eo36) | ((with_reducible refine gate_callee (f := 65) rfl ?_); refine gl_ (some 33) Tryz.func65 (by kernel_rfl) #[.pointer (some ⟨g, 0, none⟩), .string (⟨#[101, 108, 115, 101]⟩ : ByteArray)] rfl ?_; (with_reducible refine (expr_Parser_Need.calls kj3 g s0_0 t887 t888 t889 t890 t891 (⟨#[101, 108, 115, 101]⟩ : ByteArray) t893 t894 t895 t896 t897 w0 _ ?side1 ?side2 A20.out).mono ?_); (case side1 => exact hz HI0.out); (case side2 => exact bz HB.out); rintro e w37 ⟨rfl, hi, hb, hk⟩; refine ⟨_, rfl, ?_⟩; replace BK834 := am (KeepBut.blk hk (g' := gb834) (o := .cells #[.int .i64 0, .int .i64 0, .int .i64 0, .int .i64 0, .string (⟨#[]⟩ : ByteArray), .int .i64 0, .string (⟨#[]⟩ : ByteArray), .slice none 0 0] 31 (0, 0)) (bp BK834.out) NB834_0.out (by simp)); replace HO865 := am (Kd.V_mono (Kd.V_keep (Kd.V_mono (ok := fun k_ => (((((w.heap.size ≤ k_)) ∧ (k_ ≠ gb834 ∧ k_ ≠ g)) ∧ k_ ≠ gb871) ∧ k_ ≠ gb892)) (by (with_reducible repeat (first | apply Kd.V_alloc | apply Kd.V_drewN | apply Kd.V_drew)); exact (Kd.V_mono (Kd.V_far (p := ⟨gb892, 7, none⟩) (Kd.V_far (p := ⟨gb892, 6, none⟩) (Kd.V_far (p := ⟨gb892, 5, none⟩) (Kd.V_far (p := ⟨gb892, 4, none⟩) (Kd.V_far (p := ⟨gb892, 3, none⟩) (Kd.V_far (p := ⟨gb892, 2, none⟩) (Kd.V_far (p := ⟨gb892, 1, none⟩) (Kd.V_far (p := ⟨gb892, 0, none⟩) (Kd.V_mono HO865.out (fun k_ hk => (⟨hk, hk.2⟩ : _ ∧ k_ ≠ gb892))) (fun _ hk => hk.2) (.int .i64 t877)) (fun _ hk => hk.2) (.int .i64 t878)) (fun _ hk => hk.2) (.int .i64 t879)) (fun _ hk => hk.2) (.int .i64 t880)) (fun _ hk => hk.2) (.string t881)) (fun _ hk => hk.2) (.int .i64 t882)) (fun _ hk => hk.2) (.string t883)) (fun _ hk => hk.2) (.slice Ao36 t884.length co36)) (fun _ h_ => h_.1))) (fun k_ hk_ => (⟨hk_, hk_.1.1.2.2⟩ : _ ∧ k_ ≠ g))) hk (fun _ h => h.2)) (fun _ h => h.1)); replace BK871 := am (KeepBut.blk hk (g' := gb871) (o := .cells #[.int .i64 t856, .int .i64 t857, .int .i64 t858, .int .i64 t859, .string t860, .int .i64 t861, .string t862, .slice Ao28 t863.length co28] 31 (0, 0)) (bp BK871.out) NB871_0.out (by simp)); replace HO886 := am (Kd.V_mono (Kd.V_keep (Kd.V_mono (ok := fun k_ => ((((w.heap.size ≤ k_)) ∧ (k_ ≠ gb834 ∧ (k_ ≠ gb871 ∧ k_ ≠ g))) ∧ k_ ≠ gb892)) (by (with_reducible repeat (first | apply Kd.V_alloc | apply Kd.V_drewN | apply Kd.V_drew)); exact (Kd.V_mono (Kd.V_far (p := ⟨gb892, 7, none⟩) (Kd.V_far (p := ⟨gb892, 6, none⟩) (Kd.V_far (p := ⟨gb892, 5, none⟩) (Kd.V_far (p := ⟨gb892, 4, none⟩) (Kd.V_far (p := ⟨gb892, 3, none⟩) (Kd.V_far (p := ⟨gb892, 2, none⟩) (Kd.V_far (p := ⟨gb892, 1, none⟩) (Kd.V_far (p := ⟨gb892, 0, none⟩) (Kd.V_mono HO886.out (fun k_ hk => (⟨hk, hk.2⟩ : _ ∧ k_ ≠ gb892))) (fun _ hk => hk.2) (.int .i64 t877)) (fun _ hk => hk.2) (.int .i64 t878)) (fun _ hk => hk.2) (.int .i64 t879)) (fun _ hk => hk.2) (.int .i64 t880)) (fun _ hk => hk.2) (.string t881)) (fun _ hk => hk.2) (.int .i64 t882)) (fun _ hk => hk.2) (.string t883)) (fun _ hk => hk.2) (.slice Ao36 t884.length co36)) (fun _ h_ => h_.1))) (fun k_ hk_ => (⟨hk_, hk_.1.2.2.2⟩ : _ ∧ k_ ≠ g))) hk (fun _ h => h.2)) (fun _ h => h.1)); replace BK892 := am (KeepBut.blk hk (g' := gb892) (o := .cells #[.int .i64 t877, .int .i64 t878, .int .i64 t879, .int .i64 t880, .string t881, .int .i64 t882, .string t883, .slice Ao36 t884.length co36] 31 (0, 0)) (bp BK892.out) NB892_0.out (by simp)); replace HK := am (KeepBut.trans (kz HK.out) hk (.inl rfl)); replace HB := am (hb); replace HI0 := am (hi); clear hb hk hi))
   replace HO865 := am (Kd.V_drew HO865.out)
   replace HO886 := am (Kd.V_drew HO886.out)
   replace BK834 := am (blk_drew BK834.out)
   replace BK871 := am (blk_drew BK871.out)
   replace BK892 := am (blk_drew BK892.out)
   replace HI0 := am (IsS63.drew HI0.out)
   replace HK := am (keep_drew HK.out)
   replace HB := am (below_drew1 HB.out)
   refine start_ (n := 9) (S := fun w' => w'.cell? ⟨gb871, 0, none⟩ = some (.int .i64 t856) ∧ w'.cell? ⟨gb871, 1, none⟩ = some (.int .i64 t857) ∧ w'.cell? ⟨gb871, 2, none⟩ = some (.int .i64 t858) ∧ w'.cell? ⟨gb871, 3, none⟩ = some (.int .i64 t859) ∧ w'.cell? ⟨gb871, 4, none⟩ = some (.string t860) ∧ w'.cell? ⟨gb871, 5, none⟩ = some (.int .i64 t861) ∧ w'.cell? ⟨gb871, 6, none⟩ = some (.string t862) ∧ w'.cell? ⟨gb871, 7, none⟩ = some (.slice Ao28 t863.length co28) ∧ w'.cell? ⟨gb892, 0, none⟩ = some (.int .i64 t877) ∧ w'.cell? ⟨gb892, 1, none⟩ = some (.int .i64 t878) ∧ w'.cell? ⟨gb892, 2, none⟩ = some (.int .i64 t879) ∧ w'.cell? ⟨gb892, 3, none⟩ = some (.int .i64 t880) ∧ w'.cell? ⟨gb892, 4, none⟩ = some (.string t881) ∧ w'.cell? ⟨gb892, 5, none⟩ = some (.int .i64 t882) ∧ w'.cell? ⟨gb892, 6, none⟩ = some (.string t883) ∧ w'.cell? ⟨gb892, 7, none⟩ = some (.slice Ao36 t884.length co36)) (ds := []) (bts0 9) (by kernel_rfl) rfl rfl ⟨(blk_cell BK871.out 0).trans rfl, (blk_cell BK871.out 1).trans rfl, (blk_cell BK871.out 2).trans rfl, (blk_cell BK871.out 3).trans rfl, (blk_cell BK871.out 4).trans rfl, (blk_cell BK871.out 5).trans rfl, (blk_cell BK871.out 6).trans rfl, (blk_cell BK871.out 7).trans rfl, (blk_cell BK892.out 0).trans rfl, (blk_cell BK892.out 1).trans rfl, (blk_cell BK892.out 2).trans rfl, (blk_cell BK892.out 3).trans rfl, (blk_cell BK892.out 4).trans rfl, (blk_cell BK892.out 5).trans rfl, (blk_cell BK892.out 6).trans rfl, (blk_cell BK892.out 7).trans rfl⟩ (fun hHeld => ?_); refine with_tabW expr_Parser_Expr.tab9 expr_Parser_Expr.bits9 (fun HT_ HW_ => ?_)
   generalize w37.drew = w38 at HO865 HO886 BK834 BK871 BK892 HI0 HK HB hHeld ⊢
   refine pu 0 (some 34) (bts 9 1) (any_of HT_.out (by kernel_rfl)) ?_
   refine pu 3 (some 37) (bts 9 9) (any_of HT_.out (by kernel_rfl)) ?_
   refine pu 4 (some 38) (bts 9 25) (any_of HT_.out (by kernel_rfl)) ?_
   refine ta 1 (some 35) (bts 9 27) (take_ofW HT_.out HW_.out (by kernel_rfl)) hHeld ?_
   refine ta 2 (some 36) (bts 9 31) (take_ofW HT_.out HW_.out (by kernel_rfl)) hHeld ?_
   refine one_ (i := 5) (N := some 39) (bts 9 63) rfl rfl (one_of HT_.out (by kernel_rfl)) (by decide) (fun K hK => ?_)
   refine goes_ Tryz.func31 (by kernel_rfl) rfl #[.pointer (some ⟨g, 0, none⟩), .int .i64 a1] (by rfl) rfl rfl lz ?_
   with_reducible refine (ih_expr_Parser_Expr kj3 (by have := HJ3.out; omega) g s0_0 t893 t894 t895 t896 t897 a1 t898 t899 t900 t901 t902 t903 t904 t905 t908 t909 t910 t911 t912 w0 _ ?side1 ?side2 A21.out).mono ?_
   (case side1 => exact hz HI0.out)
   (case side2 => exact bz HB.out)
   rintro e w39 ⟨v906, rfl, ho0, hi, hb, hk⟩
   refine ⟨_, rfl, ?_⟩
   replace HO865 := am (Kd.V_mono (Kd.V_keep (Kd.V_mono (ok := fun k_ => (((((w.heap.size ≤ k_)) ∧ (k_ ≠ gb834 ∧ k_ ≠ g)) ∧ k_ ≠ gb871) ∧ k_ ≠ gb892)) (vv HO865.out) (fun k_ hk_ => (⟨hk_, hk_.1.1.2.2⟩ : _ ∧ k_ ≠ g))) hk (fun _ h => h.2)) (fun _ h => h.1))
   replace HO886 := am (Kd.V_mono (Kd.V_keep (Kd.V_mono (ok := fun k_ => ((((w.heap.size ≤ k_)) ∧ (k_ ≠ gb834 ∧ (k_ ≠ gb871 ∧ k_ ≠ g))) ∧ k_ ≠ gb892)) (vv HO886.out) (fun k_ hk_ => (⟨hk_, hk_.1.2.2.2⟩ : _ ∧ k_ ≠ g))) hk (fun _ h => h.2)) (fun _ h => h.1))
   have HO907 := am (Kd.V_lower (Kd.V_mono (ok' := fun k_ => (w.heap.size ≤ k_) ∧ k_ ≠ gb834 ∧ k_ ≠ gb871 ∧ k_ ≠ gb892 ∧ k_ ≠ g) ho0 (fun k_ hk_ => ⟨(Nat.le_trans (keep_size (w := w) (g := g) (row := none) (kz HK.out)) hk_), (Kd.freshB (bk BK834.out) k_ hk_), (Kd.freshB (bk BK871.out) k_ hk_), (Kd.freshB (bk BK892.out) k_ hk_), (IsS63.fresh (hz HI0.out) k_ hk_)⟩)) (keep_size (w := w) (g := g) (row := none) (kz HK.out)))
   replace BK834 := am (KeepBut.blk hk (bk BK834.out) NB834_0.out (by simp))
   replace BK871 := am (KeepBut.blk hk (bk BK871.out) NB871_0.out (by simp))
   replace BK892 := am (KeepBut.blk hk (bk BK892.out) NB892_0.out (by simp))
   replace HK := am (KeepBut.trans (kz HK.out) hk (.inl rfl))
   replace HB := am (hb)
   replace HI0 := am (hi)
   (try clear hb)
   (try clear hb2)
   (try clear hk)
   (try clear hi)
   (try clear ho0)
   obtain ⟨Ao40, co40, eo40⟩ := Kd.V_slice HO907.out
   (first | subst eo40 | (injection eo40 with f1_ f2_ f3_; have f4_ := f1_.symm; have f5_ := f3_.symm; clear f1_ f2_ f3_; subst f4_; subst f5_))
   refine hK.out _ _ ⟨(blk_cell BK871.out 0).trans rfl, (blk_cell BK871.out 1).trans rfl, (blk_cell BK871.out 2).trans rfl, (blk_cell BK871.out 3).trans rfl, (blk_cell BK871.out 4).trans rfl, (blk_cell BK871.out 5).trans rfl, (blk_cell BK871.out 6).trans rfl, (blk_cell BK871.out 7).trans rfl, (blk_cell BK892.out 0).trans rfl, (blk_cell BK892.out 1).trans rfl, (blk_cell BK892.out 2).trans rfl, (blk_cell BK892.out 3).trans rfl, (blk_cell BK892.out 4).trans rfl, (blk_cell BK892.out 5).trans rfl, (blk_cell BK892.out 6).trans rfl, (blk_cell BK892.out 7).trans rfl⟩ (fun hHeld => ?_)
   clear hK K
   refine norm_ (a' := ?_) ?_ ?_
   rotate_left
   ·show Act.put _ (some 39) _ = _
    simp only [Act.put, List.setIfInBounds_toArray, List.set_cons_zero, List.set_cons_succ, i64_w, i32_w]
    rfl
   refine one_ (i := 6) (N := some 40) (bts 9 127) rfl rfl (one_of HT_.out (by kernel_rfl)) (by decide) (fun K hK => ?_)
   refine Kd.N_lit_step k31 _ 31 ?hg (N' := 40) ?hd (xs := ([(⟨t856, (⟨t857, (⟨t858, t859⟩ : S23), t860, t861⟩ : S25), t862, t863⟩ : S31), (⟨t877, (⟨t878, (⟨t879, t880⟩ : S23), t881, t882⟩ : S25), t883, t884⟩ : S31), (⟨t898, (⟨t899, (⟨t900, t901⟩ : S23), t902, t903⟩ : S25), t904, t905⟩ : S31)] : List (S31))) (inner := [.int .i64 t856, .int .i64 t857, .int .i64 t858, .int .i64 t859, .string t860, .int .i64 t861, .string t862, .slice Ao28 t863.length co28, .int .i64 t877, .int .i64 t878, .int .i64 t879, .int .i64 t880, .string t881, .int .i64 t882, .string t883, .slice Ao36 t884.length co36, .int .i64 t898, .int .i64 t899, .int .i64 t900, .int .i64 t901, .string t902, .int .i64 t903, .string t904, .slice Ao40 t905.length co40]) (ok := (fun k_ => (w.heap.size ≤ k_) ∧ k_ ≠ gb834 ∧ k_ ≠ gb871 ∧ k_ ≠ gb892 ∧ k_ ≠ g)) (okp := (fun k_ => (w.heap.size ≤ k_) ∧ k_ ≠ gb834 ∧ k_ ≠ gb871 ∧ k_ ≠ gb892 ∧ k_ ≠ g)) ?hr ?hp (fun _ hk => hk) ((show ∀ k_, w39.heap.size ≤ k_ → (fun k_ => (w.heap.size ≤ k_) ∧ k_ ≠ gb834 ∧ k_ ≠ gb871 ∧ k_ ≠ gb892 ∧ k_ ≠ g) k_ from fun k_ hk => ⟨(Nat.le_trans (keep_size (w := w) (g := g) (row := none) (kz HK.out)) hk), Kd.freshB (bk BK834.out) k_ hk, Kd.freshB (bk BK871.out) k_ hk, Kd.freshB (bk BK892.out) k_ hk, IsS63.fresh (hz HI0.out) k_ hk⟩) _ (Nat.le_refl _)) (Below.refl _ _) (Nat.le_refl _) (by simp) ?_; (case hd => rfl); (case hg => rfl); (case hr => first | (go_simp; done) | (go_simp; rfl)); (case hp => exact (Reps.c8 (show Kd.FK k31 _ _ (⟨t856, (⟨t857, (⟨t858, t859⟩ : S23), t860, t861⟩ : S25), t862, t863⟩ : S31) [.int .i64 t856, .int .i64 t857, .int .i64 t858, .int .i64 t859, .string t860, .int .i64 t861, .string t862, .slice Ao28 t863.length co28] from (k31_mkF _ _ (⟨t856, (⟨t857, (⟨t858, t859⟩ : S23), t860, t861⟩ : S25), t862, t863⟩ : S31) (Kd.V_reads' (Kd.V_mono (ok' := (fun k_ => (w.heap.size ≤ k_) ∧ k_ ≠ gb834 ∧ k_ ≠ gb871 ∧ k_ ≠ gb892 ∧ k_ ≠ g)) (HO865.out) (fun k_ hk => ⟨hk.1.1.1, ⟨hk.1.1.2.1, ⟨hk.1.2, ⟨hk.2, hk.1.1.2.2⟩⟩⟩⟩))).2.1 (Kd.V_F (Kd.V_mono (ok' := (fun k_ => (w.heap.size ≤ k_) ∧ k_ ≠ gb834 ∧ k_ ≠ gb871 ∧ k_ ≠ gb892 ∧ k_ ≠ g)) (HO865.out) (fun k_ hk => ⟨hk.1.1.1, ⟨hk.1.1.2.1, ⟨hk.1.2, ⟨hk.2, hk.1.1.2.2⟩⟩⟩⟩))))) (Reps.c8 (show Kd.FK k31 _ _ (⟨t877, (⟨t878, (⟨t879, t880⟩ : S23), t881, t882⟩ : S25), t883, t884⟩ : S31) [.int .i64 t877, .int .i64 t878, .int .i64 t879, .int .i64 t880, .string t881, .int .i64 t882, .string t883, .slice Ao36 t884.length co36] from (k31_mkF _ _ (⟨t877, (⟨t878, (⟨t879, t880⟩ : S23), t881, t882⟩ : S25), t883, t884⟩ : S31) (Kd.V_reads' (Kd.V_mono (ok' := (fun k_ => (w.heap.size ≤ k_) ∧ k_ ≠ gb834 ∧ k_ ≠ gb871 ∧ k_ ≠ gb892 ∧ k_ ≠ g)) (HO886.out) (fun k_ hk => ⟨hk.1.1, ⟨hk.1.2.1, ⟨hk.1.2.2.1, ⟨hk.2, hk.1.2.2.2⟩⟩⟩⟩))).2.1 (Kd.V_F (Kd.V_mono (ok' := (fun k_ => (w.heap.size ≤ k_) ∧ k_ ≠ gb834 ∧ k_ ≠ gb871 ∧ k_ ≠ gb892 ∧ k_ ≠ g)) (HO886.out) (fun k_ hk => ⟨hk.1.1, ⟨hk.1.2.1, ⟨hk.1.2.2.1, ⟨hk.2, hk.1.2.2.2⟩⟩⟩⟩))))) (Reps.c8 (show Kd.FK k31 _ _ (⟨t898, (⟨t899, (⟨t900, t901⟩ : S23), t902, t903⟩ : S25), t904, t905⟩ : S31) [.int .i64 t898, .int .i64 t899, .int .i64 t900, .int .i64 t901, .string t902, .int .i64 t903, .string t904, .slice Ao40 t905.length co40] from (k31_mkF _ _ (⟨t898, (⟨t899, (⟨t900, t901⟩ : S23), t902, t903⟩ : S25), t904, t905⟩ : S31) (Kd.V_reads' (Kd.V_mono (ok' := (fun k_ => (w.heap.size ≤ k_) ∧ k_ ≠ gb834 ∧ k_ ≠ gb871 ∧ k_ ≠ gb892 ∧ k_ ≠ g)) (HO907.out) (fun k_ hk => ⟨hk.1, ⟨hk.2.1, ⟨hk.2.2.1, ⟨hk.2.2.2.1, hk.2.2.2.2⟩⟩⟩⟩))).2.1 (Kd.V_F (Kd.V_mono (ok' := (fun k_ => (w.heap.size ≤ k_) ∧ k_ ≠ gb834 ∧ k_ ≠ gb871 ∧ k_ ≠ gb892 ∧ k_ ≠ g)) (HO907.out) (fun k_ hk => ⟨hk.1, ⟨hk.2.1, ⟨hk.2.2.1, ⟨hk.2.2.2.1, hk.2.2.2.2⟩⟩⟩⟩))))) (Reps.none _ _)))))
   intro v914 w41 ho42 hb hg_ hnew_
   clear hg_ hnew_
   (first | rw [← Ny913.out] at ho42 | (simp only [Int.reduceToNat] at ho42; rw [← Ny913.out] at ho42))
   replace HO865 := am (Kd.V_elder' (vv HO865.out) (Kd.N_base ho42) hb)
   replace HO886 := am (Kd.V_elder' (vv HO886.out) (Kd.N_base ho42) hb)
   replace HO907 := am (Kd.V_elder' (vv HO907.out) (Kd.N_base ho42) hb)
   have HO915 := am (Kd.N_lower ho42 (keep_size (w := w) (g := g) (row := none) (kz HK.out)))
   replace BK834 := kb BK834 hb
   replace HI0 := am (IsS63.below (hz HI0.out) hb)
   replace BK871 := kb BK871 hb
   replace BK892 := kb BK892 hb
   replace HK := am (KeepBut.trans (kz HK.out) (KeepBut.of_below hb g none) (.inl rfl))
   replace HB := sb HB hb
   clear hb ho42
   obtain ⟨Ao43, co43, eo43⟩ := Kd.N_slice HO915.out
   (first | subst eo43 | (injection eo43 with f1_ f2_ f3_; have f4_ := f1_.symm; have f5_ := f3_.symm; clear f1_ f2_ f3_; subst f4_; subst f5_))
   refine hK.out _ _ ⟨(blk_cell BK871.out 0).trans rfl, (blk_cell BK871.out 1).trans rfl, (blk_cell BK871.out 2).trans rfl, (blk_cell BK871.out 3).trans rfl, (blk_cell BK871.out 4).trans rfl, (blk_cell BK871.out 5).trans rfl, (blk_cell BK871.out 6).trans rfl, (blk_cell BK871.out 7).trans rfl, (blk_cell BK892.out 0).trans rfl, (blk_cell BK892.out 1).trans rfl, (blk_cell BK892.out 2).trans rfl, (blk_cell BK892.out 3).trans rfl, (blk_cell BK892.out 4).trans rfl, (blk_cell BK892.out 5).trans rfl, (blk_cell BK892.out 6).trans rfl, (blk_cell BK892.out 7).trans rfl⟩ (fun hHeld => ?_)
   clear hK K
   refine norm_ (a' := ?_) ?_ ?_
   rotate_left
   ·show Act.put _ (some 40) _ = _
    simp only [Act.put, List.setIfInBounds_toArray, List.set_cons_zero, List.set_cons_succ, i64_w, i32_w]
    rfl
   refine one_ (i := 7) (N := some 41) (bts 9 255) rfl rfl (one_of HT_.out (by kernel_rfl)) (by decide) (fun K hK => ?_)
   refine goes_ Tryz.func66 (by kernel_rfl) rfl #[.pointer (some ⟨g, 0, none⟩), .int .i64 17, .slice Ao43 y913.length co43] (by rfl) rfl rfl lz ?_
   with_reducible refine (expr_Parser_make.calls g s0_0 t908 t909 t910 t911 t912 17 (fun k_ => ((w.heap.size ≤ k_) ∧ (k_ ≠ gb834 ∧ (k_ ≠ gb871 ∧ (k_ ≠ gb892 ∧ k_ ≠ g))))) _ _ y913 t916 t917 t918 t919 t920 t921 t922 t923 t926 t927 t928 t929 t930 w0 _ ?side1 ?side2 ?side3 A22.out).mono ?_
   (case side1 => exact hz HI0.out)
   (case side2 => exact bz HB.out)
   (case side3 => exact Kd.V_mono (Kd.N_V (HO915.out)) (fun k_ hk_ => ⟨hk_, hk_.2.2.2.2⟩))
   rintro e w44 ⟨v924, rfl, ho0, hi, hb, hk⟩
   refine ⟨_, rfl, ?_⟩
   replace HO865 := am (Kd.V_mono (Kd.V_keep (Kd.V_mono (ok := fun k_ => ((((((w.heap.size ≤ k_)) ∧ (k_ ≠ gb834 ∧ k_ ≠ g)) ∧ k_ ≠ gb871) ∧ k_ ≠ gb892) ∧ some k_ ≠ (.slice Ao43 y913.length co43 : Value).ownBlock)) (vv HO865.out) (fun k_ hk_ => (⟨hk_, hk_.1.1.1.2.2⟩ : _ ∧ k_ ≠ g))) hk (fun _ h => h.2)) (fun _ h => h.1))
   replace HO886 := am (Kd.V_mono (Kd.V_keep (Kd.V_mono (ok := fun k_ => (((((w.heap.size ≤ k_)) ∧ (k_ ≠ gb834 ∧ (k_ ≠ gb871 ∧ k_ ≠ g))) ∧ k_ ≠ gb892) ∧ some k_ ≠ (.slice Ao43 y913.length co43 : Value).ownBlock)) (vv HO886.out) (fun k_ hk_ => (⟨hk_, hk_.1.1.2.2.2⟩ : _ ∧ k_ ≠ g))) hk (fun _ h => h.2)) (fun _ h => h.1))
   replace HO907 := am (Kd.V_mono (Kd.V_keep (Kd.V_mono (ok := fun k_ => ((((w.heap.size ≤ k_)) ∧ (k_ ≠ gb834 ∧ (k_ ≠ gb871 ∧ (k_ ≠ gb892 ∧ k_ ≠ g)))) ∧ some k_ ≠ (.slice Ao43 y913.length co43 : Value).ownBlock)) (vv HO907.out) (fun k_ hk_ => (⟨hk_, hk_.1.2.2.2.2⟩ : _ ∧ k_ ≠ g))) hk (fun _ h => h.2)) (fun _ h => h.1))
   replace HO915 := am (Kd.N_mono (Kd.N_keep (Kd.N_mono (ok := fun k_ => (((w.heap.size ≤ k_)) ∧ (k_ ≠ gb834 ∧ (k_ ≠ gb871 ∧ (k_ ≠ gb892 ∧ k_ ≠ g))))) (nn HO915.out) (fun k_ hk_ => (⟨hk_, hk_.2.2.2.2⟩ : _ ∧ k_ ≠ g))) hk (fun _ h => h.2)) (fun _ h => h.1))
   have HO925 := am (Kd.V_lower (Kd.V_mono (ok' := fun k_ => (w.heap.size ≤ k_) ∧ k_ ≠ gb834 ∧ k_ ≠ gb871 ∧ k_ ≠ gb892 ∧ k_ ≠ g) ho0 (fun k_ hk_ => ⟨Or.elim hk_ (fun hs_ => hs_.1) (fun hn_ => (Nat.le_trans (keep_size (w := w) (g := g) (row := none) (kz HK.out)) hn_)), Or.elim hk_ (fun hs_ => hs_.2.1) (fun hn_ => (Kd.freshB (bk BK834.out) k_ hn_)), Or.elim hk_ (fun hs_ => hs_.2.2.1) (fun hn_ => (Kd.freshB (bk BK871.out) k_ hn_)), Or.elim hk_ (fun hs_ => hs_.2.2.2.1) (fun hn_ => (Kd.freshB (bk BK892.out) k_ hn_)), Or.elim hk_ (fun hs_ => hs_.2.2.2.2) (fun hn_ => (IsS63.fresh (hz HI0.out) k_ hn_))⟩)) (keep_size (w := w) (g := g) (row := none) (kz HK.out)))
   replace BK834 := am (KeepBut.blk hk (bk BK834.out) NB834_0.out (by simp))
   replace BK871 := am (KeepBut.blk hk (bk BK871.out) NB871_0.out (by simp))
   replace BK892 := am (KeepBut.blk hk (bk BK892.out) NB892_0.out (by simp))
   replace HK := am (KeepBut.trans (kz HK.out) hk (.inl rfl))
   replace HB := am (hb)
   replace HI0 := am (hi)
   (try clear hb)
   (try clear hb2)
   (try clear hk)
   (try clear hi)
   (try clear ho0)
   obtain ⟨Ao52, co52, eo52⟩ := Kd.V_slice HO925.out
   (first | subst eo52 | (injection eo52 with f1_ f2_ f3_; have f4_ := f1_.symm; have f5_ := f3_.symm; clear f1_ f2_ f3_; subst f4_; subst f5_))
   refine hK.out _ _ ⟨(blk_cell BK871.out 0).trans rfl, (blk_cell BK871.out 1).trans rfl, (blk_cell BK871.out 2).trans rfl, (blk_cell BK871.out 3).trans rfl, (blk_cell BK871.out 4).trans rfl, (blk_cell BK871.out 5).trans rfl, (blk_cell BK871.out 6).trans rfl, (blk_cell BK871.out 7).trans rfl, (blk_cell BK892.out 0).trans rfl, (blk_cell BK892.out 1).trans rfl, (blk_cell BK892.out 2).trans rfl, (blk_cell BK892.out 3).trans rfl, (blk_cell BK892.out 4).trans rfl, (blk_cell BK892.out 5).trans rfl, (blk_cell BK892.out 6).trans rfl, (blk_cell BK892.out 7).trans rfl⟩ (fun hHeld => ?_)
   clear hK K
   refine norm_ (a' := ?_) ?_ ?_
   rotate_left
   ·show Act.put _ (some 41) _ = _
    simp only [Act.put, List.setIfInBounds_toArray, List.set_cons_zero, List.set_cons_succ, i64_w, i32_w]
    rfl
   refine one_ (i := 8) (N := none) (bts 9 511) rfl rfl (one_of HT_.out (by kernel_rfl)) (by decide) (fun K hK => ?_)
   have hs45 : w44.cell? ⟨gb834, 0, none⟩ = some (.int .i64 0) := (blk_cell BK834.out 0).trans rfl
   have hfs45 := blk_frozen BK834.out 0
   have hns45_1 := NB871_834.out
   have hns45_2 := NB892_834.out
   have hms45_1 := NB834_871.out
   have hms45_2 := NB834_892.out
   have hs46 : w44.cell? ⟨gb834, 1, none⟩ = some (.int .i64 0) := (blk_cell BK834.out 1).trans rfl
   have hfs46 := blk_frozen BK834.out 1
   have hns46_1 := NB871_834.out
   have hns46_2 := NB892_834.out
   have hms46_1 := NB834_871.out
   have hms46_2 := NB834_892.out
   have hs47 : w44.cell? ⟨gb834, 2, none⟩ = some (.int .i64 0) := (blk_cell BK834.out 2).trans rfl
   have hfs47 := blk_frozen BK834.out 2
   have hns47_1 := NB871_834.out
   have hns47_2 := NB892_834.out
   have hms47_1 := NB834_871.out
   have hms47_2 := NB834_892.out
   have hs48 : w44.cell? ⟨gb834, 3, none⟩ = some (.int .i64 0) := (blk_cell BK834.out 3).trans rfl
   have hfs48 := blk_frozen BK834.out 3
   have hns48_1 := NB871_834.out
   have hns48_2 := NB892_834.out
   have hms48_1 := NB834_871.out
   have hms48_2 := NB834_892.out
   have hs49 : w44.cell? ⟨gb834, 4, none⟩ = some (.string (⟨#[]⟩ : ByteArray)) := (blk_cell BK834.out 4).trans rfl
   have hfs49 := blk_frozen BK834.out 4
   have hns49_1 := NB871_834.out
   have hns49_2 := NB892_834.out
   have hms49_1 := NB834_871.out
   have hms49_2 := NB834_892.out
   have hs50 : w44.cell? ⟨gb834, 5, none⟩ = some (.int .i64 0) := (blk_cell BK834.out 5).trans rfl
   have hfs50 := blk_frozen BK834.out 5
   have hns50_1 := NB871_834.out
   have hns50_2 := NB892_834.out
   have hms50_1 := NB834_871.out
   have hms50_2 := NB834_892.out
   have hs51 : w44.cell? ⟨gb834, 6, none⟩ = some (.string (⟨#[]⟩ : ByteArray)) := (blk_cell BK834.out 6).trans rfl
   have hfs51 := blk_frozen BK834.out 6
   have hns51_1 := NB871_834.out
   have hns51_2 := NB892_834.out
   have hms51_1 := NB834_871.out
   have hms51_2 := NB834_892.out
   have hs53 : w44.cell? ⟨gb834, 7, none⟩ = some (.slice none 0 0) := (blk_cell BK834.out 7).trans rfl
   have hfs53 := blk_frozen BK834.out 7
   have hns53_1 := NB871_834.out
   have hns53_2 := NB892_834.out
   have hms53_1 := NB834_871.out
   have hms53_2 := NB834_892.out
   refine skip_ (w1 := ?_) (by rfl) rfl ?_ ?_
   rotate_left
   ·go_simp
    rfl
   refine hK.out _ _ ⟨(cf hHeld.1), (cf hHeld.2.1), (cf hHeld.2.2.1), (cf hHeld.2.2.2.1), (cf hHeld.2.2.2.2.1), (cf hHeld.2.2.2.2.2.1), (cf hHeld.2.2.2.2.2.2.1), (cf hHeld.2.2.2.2.2.2.2.1), (cf hHeld.2.2.2.2.2.2.2.2.1), (cf hHeld.2.2.2.2.2.2.2.2.2.1), (cf hHeld.2.2.2.2.2.2.2.2.2.2.1), (cf hHeld.2.2.2.2.2.2.2.2.2.2.2.1), (cf hHeld.2.2.2.2.2.2.2.2.2.2.2.2.1), (cf hHeld.2.2.2.2.2.2.2.2.2.2.2.2.2.1), (cf hHeld.2.2.2.2.2.2.2.2.2.2.2.2.2.2.1), (cf hHeld.2.2.2.2.2.2.2.2.2.2.2.2.2.2.2)⟩ (fun hHeld => ?_)
   clear hK K
   refine done_ (done_of HT_.out (by kernel_rfl)) ?_
   try go_wp2
   refine bodyPost_ret (results_cell_row rfl _ _ gb834 31 #[.int .i64 t916, .int .i64 t917, .int .i64 t918, .int .i64 t919, .string t920, .int .i64 t921, .string t922, .slice Ao52 t923.length co52] (0, 0) _ rfl (bp BK834.out) Tryz.underlying31 rfl (by kernel_rfl)) rfl ?_
   exact ⟨_, az, by (with_reducible repeat (first | apply Kd.V_alloc | apply Kd.V_drewN | apply Kd.V_drew)); exact Kd.V_mono (Kd.V_far (p := ⟨gb834, 7, none⟩) (Kd.V_far (p := ⟨gb834, 6, none⟩) (Kd.V_far (p := ⟨gb834, 5, none⟩) (Kd.V_far (p := ⟨gb834, 4, none⟩) (Kd.V_far (p := ⟨gb834, 3, none⟩) (Kd.V_far (p := ⟨gb834, 2, none⟩) (Kd.V_far (p := ⟨gb834, 1, none⟩) (Kd.V_far (p := ⟨gb834, 0, none⟩) (Kd.V_mono HO925.out (fun k_ hk => (⟨hk, hk.2.1⟩ : _ ∧ k_ ≠ gb834))) (fun _ hk => hk.2) (.int .i64 t916)) (fun _ hk => hk.2) (.int .i64 t917)) (fun _ hk => hk.2) (.int .i64 t918)) (fun _ hk => hk.2) (.int .i64 t919)) (fun _ hk => hk.2) (.string t920)) (fun _ hk => hk.2) (.int .i64 t921)) (fun _ hk => hk.2) (.string t922)) (fun _ hk => hk.2) (.slice Ao52 t923.length co52)) (fun _ hk => hk.1.1), hz HI0.out, bz HB.out, kz HK.out⟩
end Go.Proofs.YtgkemhgihbfmmaaGreatDoor.PA
end
section
namespace Go.Proofs.YtgkemhgihbfmmaaGreatDoor.PA
open Go.RowKit Go.Proofs.YtgkemhgihbfmmaaGreatDoorW.PrintWords Go.Proofs.YtgkemhgihbfmmaaGreatDoorW.PrintLast Go.Proofs.YtgkemhgihbfmmaaGreatDoorW.PrintMore
attribute [local go_sem] max2_int min2_int max_two min_two max_three min_three max_four min_four isSome_set str_gtr
set_option linter.unusedVariables false
set_option linter.unusedSimpArgs false
theorem expr_Parser_Expr.all (k : Nat) : (∀ (g : Nat) (s0_0 : List (S136)) (s0_1 s0_2 s0_3 s0_4 s0_5 a1 r1 r2 r3 r4 : Int) (r5 : ByteArray) (r6 : Int) (r7 : ByteArray) (r8 : List (S31)) (r9 r10 r11 r12 r13 : Int) (w0 w : World) (hI : IsS63 w0 w g s0_0 s0_1 s0_2 s0_3 s0_4 s0_5) (hB : Below w0.heap.size w0 w) (h : expr_Parser_prefix.f k s0_0 s0_1 s0_2 s0_3 s0_4 s0_5 a1 = some (r1, r2, r3, r4, r5, r6, r7, r8, r9, r10, r11, r12, r13)),
  Calls Tryz.prog 109 #[.pointer (some ⟨g, 0, none⟩), .int .i64 a1] w fun e w' => ∃ v7_ : Value, e = .returned (.agg #[.int .i64 r1, .int .i64 r2, .int .i64 r3, .int .i64 r4, .string r5, .int .i64 r6, .string r7, v7_]) ∧ Kd.V k31 31 w' w.heap.size (fun k_ => (w.heap.size ≤ k_)) v7_ r8 ∧ IsS63 w0 w' g s0_0 r9 r10 r11 r12 r13 ∧ Below w0.heap.size w0 w' ∧ KeepBut w w' g none) ∧
 (∀ (g : Nat) (s0_0 : List (S136)) (s0_1 s0_2 s0_3 s0_4 s0_5 a1 a2 r1 r2 r3 r4 : Int) (r5 : ByteArray) (r6 : Int) (r7 : ByteArray) (r8 : List (S31)) (r9 r10 r11 r12 r13 : Int) (w0 w : World) (hI : IsS63 w0 w g s0_0 s0_1 s0_2 s0_3 s0_4 s0_5) (hB : Below w0.heap.size w0 w) (h : expr_Parser_chain.f k s0_0 s0_1 s0_2 s0_3 s0_4 s0_5 a1 a2 = some (r1, r2, r3, r4, r5, r6, r7, r8, r9, r10, r11, r12, r13)),
  Calls Tryz.prog 64 #[.pointer (some ⟨g, 0, none⟩), .int .i64 a1, .int .i64 a2] w fun e w' => ∃ v7_ : Value, e = .returned (.agg #[.int .i64 r1, .int .i64 r2, .int .i64 r3, .int .i64 r4, .string r5, .int .i64 r6, .string r7, v7_]) ∧ Kd.V k31 31 w' w.heap.size (fun k_ => (w.heap.size ≤ k_)) v7_ r8 ∧ IsS63 w0 w' g s0_0 r9 r10 r11 r12 r13 ∧ Below w0.heap.size w0 w' ∧ KeepBut w w' g none) ∧
 (∀ (g : Nat) (s0_0 : List (S136)) (s0_1 s0_2 s0_3 s0_4 s0_5 a1 r1 r2 r3 r4 : Int) (r5 : ByteArray) (r6 : Int) (r7 : ByteArray) (r8 : List (S31)) (r9 r10 r11 r12 r13 : Int) (w0 w : World) (hI : IsS63 w0 w g s0_0 s0_1 s0_2 s0_3 s0_4 s0_5) (hB : Below w0.heap.size w0 w) (h : expr_Parser_Expr.f k s0_0 s0_1 s0_2 s0_3 s0_4 s0_5 a1 = some (r1, r2, r3, r4, r5, r6, r7, r8, r9, r10, r11, r12, r13)),
  Calls Tryz.prog 31 #[.pointer (some ⟨g, 0, none⟩), .int .i64 a1] w fun e w' => ∃ v7_ : Value, e = .returned (.agg #[.int .i64 r1, .int .i64 r2, .int .i64 r3, .int .i64 r4, .string r5, .int .i64 r6, .string r7, v7_]) ∧ Kd.V k31 31 w' w.heap.size (fun k_ => (w.heap.size ≤ k_)) v7_ r8 ∧ IsS63 w0 w' g s0_0 r9 r10 r11 r12 r13 ∧ Below w0.heap.size w0 w' ∧ KeepBut w w' g none) := by
 induction k using Nat.strongRecOn with
 | _ k ih => exact ⟨expr_Parser_prefix.step k (fun k' hk' => (ih k' hk').1) (fun k' hk' => (ih k' hk').2.1) (fun k' hk' => (ih k' hk').2.2), expr_Parser_chain.step k (fun k' hk' => (ih k' hk').1) (fun k' hk' => (ih k' hk').2.1) (fun k' hk' => (ih k' hk').2.2), expr_Parser_Expr.step k (fun k' hk' => (ih k' hk').1) (fun k' hk' => (ih k' hk').2.1) (fun k' hk' => (ih k' hk').2.2)⟩
theorem expr_Parser_Expr.calls (k : Nat) : ∀ (g : Nat) (s0_0 : List (S136)) (s0_1 s0_2 s0_3 s0_4 s0_5 a1 r1 r2 r3 r4 : Int) (r5 : ByteArray) (r6 : Int) (r7 : ByteArray) (r8 : List (S31)) (r9 r10 r11 r12 r13 : Int) (w0 w : World) (hI : IsS63 w0 w g s0_0 s0_1 s0_2 s0_3 s0_4 s0_5) (hB : Below w0.heap.size w0 w) (h : expr_Parser_Expr.f k s0_0 s0_1 s0_2 s0_3 s0_4 s0_5 a1 = some (r1, r2, r3, r4, r5, r6, r7, r8, r9, r10, r11, r12, r13)),
  Calls Tryz.prog 31 #[.pointer (some ⟨g, 0, none⟩), .int .i64 a1] w fun e w' => ∃ v7_ : Value, e = .returned (.agg #[.int .i64 r1, .int .i64 r2, .int .i64 r3, .int .i64 r4, .string r5, .int .i64 r6, .string r7, v7_]) ∧ Kd.V k31 31 w' w.heap.size (fun k_ => (w.heap.size ≤ k_)) v7_ r8 ∧ IsS63 w0 w' g s0_0 r9 r10 r11 r12 r13 ∧ Below w0.heap.size w0 w' ∧ KeepBut w w' g none := (expr_Parser_Expr.all k).2.2
end Go.Proofs.YtgkemhgihbfmmaaGreatDoor.PA
end
section
namespace Go.Proofs.YtgkemhgihbfmmaaGreatDoor.PA
open Go.RowKit Go.Proofs.YtgkemhgihbfmmaaGreatDoorW.PrintWords Go.Proofs.YtgkemhgihbfmmaaGreatDoorW.PrintLast Go.Proofs.YtgkemhgihbfmmaaGreatDoorW.PrintMore
attribute [local go_sem] max2_int min2_int max_two min_two max_three min_three max_four min_four isSome_set str_gtr
set_option linter.unusedVariables false
set_option linter.unusedSimpArgs false
def expr_Parser_Ended.f (s0_0 : List (S136)) (s0_1 s0_2 s0_3 s0_4 s0_5 : Int) : Option (Bool × Int × Int × Int × Int × Int) := if s0_4 = 0 then (some ((s0_1 == (s0_0.length : Int)), s0_1, s0_2, s0_3, s0_4, s0_5)) else (some (false, s0_1, s0_2, s0_3, s0_4, s0_5))
set_option maxHeartbeats 8000000 in
set_option maxRecDepth 100000 in
theorem expr_Parser_Ended.calls (g : Nat) (s0_0 : List (S136)) (s0_1 s0_2 s0_3 s0_4 s0_5 : Int) (r1 : Bool) (r2 r3 r4 r5 r6 : Int) (w0 w : World) (hI : IsS63 w0 w g s0_0 s0_1 s0_2 s0_3 s0_4 s0_5) (hB : Below w0.heap.size w0 w) (h : expr_Parser_Ended.f s0_0 s0_1 s0_2 s0_3 s0_4 s0_5 = some (r1, r2, r3, r4, r5, r6)) :
  Calls Tryz.prog 32 #[.pointer (some ⟨g, 0, none⟩)] w fun e w' => e = .returned (.bool r1) ∧ IsS63 w0 w' g s0_0 r2 r3 r4 r5 r6 ∧ Below w0.heap.size w0 w' ∧ KeepBut w w' g none := by
 have HI0 := am hI
 have HK := am (KeepBut.refl w g none)
 have HL := am hB.size
 clear hI
 have HW0 := am hB.size
 have HB := am hB
 clear hB
 have H : (if s0_4 = 0 then (some ((s0_1 == (s0_0.length : Int)), s0_1, s0_2, s0_3, s0_4, s0_5)) else (some (false, s0_1, s0_2, s0_3, s0_4, s0_5))) = some (r1, r2, r3, r4, r5, r6) := h
 clear h
 by_cases c2 : s0_4 = 0
 ·replace H := ipe c2 H
  obtain ⟨H, c2b0, c2b1⟩ := H
  clear c2
  simp only [Option.some.injEq, Prod.mk.injEq] at H
  obtain ⟨rfl, rfl, rfl, rfl, rfl, rfl⟩ := H
  obtain ⟨ASz3_0, cSz3_0, HSz3_0, Z3_0, Z3_1, Z3_2, Z3_3, Z3_4, Z3_5, F3_1, F3_2, F3_3, F3_4, F3_5⟩ := open63 HI0.out
  go_enter Tryz.func32, Tryz.ntmps32
  go_wp2
  repeat (go_quiet (fail); try go_wp2)
  go_ret
  exact ⟨az, hz HI0.out, bz HB.out, kz HK.out⟩
 replace H := ine c2 H
 obtain ⟨H, c2b0, c2b1⟩ := H
 simp only [Option.some.injEq, Prod.mk.injEq] at H
 obtain ⟨rfl, rfl, rfl, rfl, rfl, rfl⟩ := H
 obtain ⟨ASz4_0, cSz4_0, HSz4_0, Z4_0, Z4_1, Z4_2, Z4_3, Z4_4, Z4_5, F4_1, F4_2, F4_3, F4_4, F4_5⟩ := open63 HI0.out
 go_enter Tryz.func32, Tryz.ntmps32
 go_wp2
 repeat (go_quiet (fail); try go_wp2)
 go_ret
 exact ⟨az, hz HI0.out, bz HB.out, kz HK.out⟩
end Go.Proofs.YtgkemhgihbfmmaaGreatDoor.PA
end
section
namespace Go.Proofs.YtgkemhgihbfmmaaGreatDoor.PA
open Go.RowKit Go.Proofs.YtgkemhgihbfmmaaGreatDoorW.PrintWords Go.Proofs.YtgkemhgihbfmmaaGreatDoorW.PrintLast Go.Proofs.YtgkemhgihbfmmaaGreatDoorW.PrintMore
attribute [local go_sem] max2_int min2_int max_two min_two max_three min_three max_four min_four isSome_set str_gtr
set_option linter.unusedVariables false
set_option linter.unusedSimpArgs false
def expr_Parser_Error.f (s0_0 : List (S136)) (s0_1 s0_2 s0_3 s0_4 s0_5 : Int) : Option (Int × Int × Int × Int × Int × Int × Int) := some (s0_3, s0_4, s0_1, s0_2, s0_3, s0_4, s0_5)
set_option maxHeartbeats 8000000 in
set_option maxRecDepth 100000 in
theorem expr_Parser_Error.calls (g : Nat) (s0_0 : List (S136)) (s0_1 s0_2 s0_3 s0_4 s0_5 r1 r2 r3 r4 r5 r6 r7 : Int) (w0 w : World) (hI : IsS63 w0 w g s0_0 s0_1 s0_2 s0_3 s0_4 s0_5) (hB : Below w0.heap.size w0 w) (h : expr_Parser_Error.f s0_0 s0_1 s0_2 s0_3 s0_4 s0_5 = some (r1, r2, r3, r4, r5, r6, r7)) :
  Calls Tryz.prog 34 #[.pointer (some ⟨g, 0, none⟩)] w fun e w' => e = .returned (.tuple #[.int .i64 r1, .int .i64 r2]) ∧ IsS63 w0 w' g s0_0 r3 r4 r5 r6 r7 ∧ Below w0.heap.size w0 w' ∧ KeepBut w w' g none := by
 have HI0 := am hI
 have HK := am (KeepBut.refl w g none)
 have HL := am hB.size
 clear hI
 have HW0 := am hB.size
 have HB := am hB
 clear hB
 have H : (some (s0_3, s0_4, s0_1, s0_2, s0_3, s0_4, s0_5)) = some (r1, r2, r3, r4, r5, r6, r7) := h
 clear h
 simp only [Option.some.injEq, Prod.mk.injEq] at H
 obtain ⟨rfl, rfl, rfl, rfl, rfl, rfl, rfl⟩ := H
 obtain ⟨ASz2_0, cSz2_0, HSz2_0, Z2_0, Z2_1, Z2_2, Z2_3, Z2_4, Z2_5, F2_1, F2_2, F2_3, F2_4, F2_5⟩ := open63 HI0.out
 go_enter Tryz.func34, Tryz.ntmps34
 go_wp2
 repeat (go_quiet (fail); try go_wp2)
 go_ret2
 exact ⟨az, hz HI0.out, bz HB.out, kz HK.out⟩
end Go.Proofs.YtgkemhgihbfmmaaGreatDoor.PA
end
section
namespace Go.Proofs.YtgkemhgihbfmmaaGreatDoor.PA
open Go.RowKit Go.Proofs.YtgkemhgihbfmmaaGreatDoorW.PrintWords Go.Proofs.YtgkemhgihbfmmaaGreatDoorW.PrintLast Go.Proofs.YtgkemhgihbfmmaaGreatDoorW.PrintMore
attribute [local go_sem] max2_int min2_int max_two min_two max_three min_three max_four min_four isSome_set str_gtr
set_option linter.unusedVariables false
set_option linter.unusedSimpArgs false
end Go.Proofs.YtgkemhgihbfmmaaGreatDoor.PA
end
section
namespace Go.Proofs.YtgkemhgihbfmmaaGreatDoor.PA
open Go.RowKit Go.Proofs.YtgkemhgihbfmmaaGreatDoorW.PrintWords Go.Proofs.YtgkemhgihbfmmaaGreatDoorW.PrintLast Go.Proofs.YtgkemhgihbfmmaaGreatDoorW.PrintMore
def expr_NewParser.f (k : Nat) (a0 : ByteArray) : Option (List S136 × Int × Int × Int × Int × Int) := (lex_Tokens.f k a0).bind fun r => some (r.1, 0, (a0.size : Int), r.2.1, r.2.2, 0)
theorem expr_NewParser.mono : ∀ a0 k, LeO (expr_NewParser.f k a0) (expr_NewParser.f (k + 1) a0) := fun a0 k => LeO.bind (lex_Tokens.mono a0 k) fun _ => LeO.refl _
set_option maxHeartbeats 4000000 in
set_option maxRecDepth 100000 in
theorem expr_NewParser.calls (k : Nat) (a0 : ByteArray) (t0 : List S136) (t1 t2 t3 t4 t5 : Int) (w : World) (hT : Tabs w) (h : expr_NewParser.f k a0 = some (t0, t1, t2, t3, t4, t5)) :
    Calls Tryz.prog 30 #[.string a0] w fun e w' => ∃ g w1, e = .returned (.pointer (some ⟨g, 0, none⟩)) ∧ IsS63 w1 w' g t0 t1 t2 t3 t4 t5 ∧ Below w.heap.size w w1 ∧ Below w1.heap.size w1 w' := by
  obtain ⟨⟨l, x3, x4⟩, hk, h⟩ := Option.bind_eq_some_iff.mp h
  simp only [Option.some.injEq, Prod.mk.injEq] at h
  obtain ⟨rfl, rfl, rfl, rfl, rfl, rfl⟩ := h
  have cK := lex_Tokens.calls k a0 l x3 x4 w hT hk
  have hu63 := Tryz.underlying63
  clear hk hT
  go_enter Tryz.func30, Tryz.ntmps30
  go_wp2_with (go_at_call 62; refine cK.mono ?_; rintro e w1 ⟨v, rfl, hR, hb⟩; obtain ⟨A, c, rfl⟩ := Kd.R_slice hR; have HR := Aside0.mk hR; have HB := Aside0.mk hb; clear hR hb)
  go_ret
  exact ⟨w1.heap.size, w1, rfl, ⟨A, c, blk_new w1 _, Nat.le_refl _, (Kd.R_reads' HR.out).2.2⟩, HB.out, below_alloc (Below.refl _ _) _⟩
end Go.Proofs.YtgkemhgihbfmmaaGreatDoor.PA
end
section
namespace Go.Proofs.YtgkemhgihbfmmaaGreatDoor.PA
open Go.RowKit Go.Proofs.YtgkemhgihbfmmaaGreatDoorW.PrintWords Go.Proofs.YtgkemhgihbfmmaaGreatDoorW.PrintLast Go.Proofs.YtgkemhgihbfmmaaGreatDoorW.PrintMore
attribute [local go_sem] isSome_set
def badPart (k : Nat) (x : S31) : Option Bool :=
  if (x.f0 == 2) != (x.f2.toList != []) then some true
  else (if x.f0 = 2 then (lex_Word.f k x.f2).bind fun ok => some (!ok) else some false).bind fun b1 =>
    if b1 = true then some true
    else if x.f0 ≠ 1 ∧ ¬ (x.f1.f0 = 0 ∧ x.f1.f1.f0 = 0 ∧ x.f1.f1.f1 = 0 ∧ x.f1.f2 = ⟨#[]⟩ ∧ x.f1.f3 = 0) then some true
    else (value_Sound.f k x.f1.f0 x.f1.f1.f0 x.f1.f1.f1 x.f1.f2 x.f1.f3).bind fun ok => some (!ok || decide (x.f1.f1.f0 < 0))
def allSound (s : S31 → Int → Option (Bool × Int)) : List S31 → Int → Option (Bool × Int)
  | [], L => some (true, L)
  | y :: t, L => (s y L).bind fun r => if r.1 = true then allSound s t r.2 else some (false, r.2)
def soundF : Nat → S31 → Int → Int → Option (Bool × Int)
  | 0, _, _, _ => none
  | k + 1, x, d, left =>
    if 64 < d then some (false, wrap64 (left - 1)) else if wrap64 (left - 1) < 0 then some (false, wrap64 (left - 1)) else
    (expr_kids.f k x.f0).bind fun n => if ¬ (x.f3.length : Int) = n then some (false, wrap64 (left - 1)) else
    (badPart k x).bind fun b => if b = true then some (false, wrap64 (left - 1)) else
    if x.f3.length < 4611686018427387904 then allSound (fun y L => soundF k y (wrap64 (d + 1)) L) x.f3 (wrap64 (left - 1)) else none
def expr_Sound.f (k : Nat) (a0 a1 a2 a3 : Int) (a4 : ByteArray) (a5 : Int) (a6 : ByteArray) (l7 : List S31) : Option Bool := (soundF k ⟨a0, ⟨a1, ⟨a2, a3⟩, a4, a5⟩, a6, l7⟩ 1 4096).bind fun r => some r.1
theorem allSound_mono {s s' : S31 → Int → Option (Bool × Int)} (h : ∀ y L, LeO (s y L) (s' y L)) : ∀ (l : List S31) (L : Int), LeO (allSound s l L) (allSound s' l L)
  | [], _ => LeO.refl _
  | y :: t, L => LeO.bind (h y L) fun r => LeO.ite (allSound_mono h t r.2) (LeO.refl _)
theorem badPart_mono (k : Nat) (x : S31) : LeO (badPart k x) (badPart (k + 1) x) := by
  unfold badPart
  refine LeO.ite (LeO.refl _) (LeO.bind ?_ fun b => ?_)
  · exact LeO.ite (LeO.bind (lex_Word.mono _ k) fun _ => LeO.refl _) (LeO.refl _)
  · exact LeO.ite (LeO.refl _) (LeO.ite (LeO.refl _) (LeO.bind (value_Sound.mono _ _ _ _ _ k) fun _ => LeO.refl _))
theorem soundF_mono : ∀ (k : Nat) (x : S31) (d left : Int), LeO (soundF k x d left) (soundF (k + 1) x d left)
  | 0, _, _, _ => LeO.none _
  | k + 1, x, d, left => by
    unfold soundF
    refine LeO.ite (LeO.refl _) (LeO.ite (LeO.refl _) (LeO.bind (expr_kids.mono _ k) fun n => LeO.ite (LeO.refl _) (LeO.bind (badPart_mono k x) fun b => LeO.ite (LeO.refl _) (LeO.ite ?_ (LeO.refl _)))))
    exact allSound_mono (fun y L => soundF_mono k y _ L) _ _
theorem expr_Sound.mono : ∀ a0 a1 a2 a3 a4 a5 a6 a7 k, LeO (expr_Sound.f k a0 a1 a2 a3 a4 a5 a6 a7) (expr_Sound.f (k + 1) a0 a1 a2 a3 a4 a5 a6 a7) := fun _ _ _ _ _ _ _ _ k => LeO.bind (soundF_mono k _ _ _) fun _ => LeO.refl _
abbrev cells31 (x : S31) (A : Option Addr) (c : Nat) : Array Value := #[.int .i64 x.f0, .int .i64 x.f1.f0, .int .i64 x.f1.f1.f0, .int .i64 x.f1.f1.f1, .string x.f1.f2, .int .i64 x.f1.f3, .string x.f2, .slice A x.f3.length c]
def SoundAt (k : Nat) : Prop := ∀ (x : S31) (A : Option Addr) (c : Nat) (d left : Int) (gl : Nat) (b : Bool) (L : Int) (w0 w : World) (_ : Kd.C k31 w0 A x.f3.length x.f3) (_ : x.f3.length ≤ c) (_ : Tabs w0) (_ : Below w0.heap.size w0 w) (_ : w.heap[gl]? = some (.cells #[.int .i64 left] 3 (0, 0))) (_ : w0.heap.size ≤ gl) (_ : soundF k x d left = some (b, L)),
  Calls Tryz.prog 68 #[.agg (cells31 x A c), .int .i64 d, .pointer (some ⟨gl, 0, none⟩)] w fun e w' => e = .returned (.bool b) ∧ Below w0.heap.size w0 w' ∧ w'.heap[gl]? = some (.cells #[.int .i64 L] 3 (0, 0)) ∧ KeepBut w w' gl none
set_option maxHeartbeats 4000000 in
set_option maxRecDepth 100000 in
theorem sound1_calls {k : Nat} (ih : SoundAt k) (x : S31) (A : Option Addr) (c : Nat) (d left : Int) (gl bd bp : Nat) (b : Bool) (L : Int) (w0 w : World) (hC : Kd.C k31 w0 A x.f3.length x.f3) (hc : x.f3.length ≤ c) (hT : Tabs w0) (hB : Below w0.heap.size w0 w) (hg : w.heap[gl]? = some (.cells #[.int .i64 left] 3 (0, 0))) (hge : w0.heap.size ≤ gl)
    (hd : w.heap[bd]? = some (.cells #[.int .i64 d] 3 (0, 0))) (hp : w.heap[bp]? = some (.cells #[.pointer (some ⟨gl, 0, none⟩)] 98 (0, 0))) (h : soundF k x (wrap64 (d + 1)) left = some (b, L)) :
    Calls Tryz.prog 114 #[.agg (cells31 x A c), .pointer (some ⟨bd, 0, none⟩), .pointer (some ⟨bp, 0, none⟩)] w fun e w' => e = .returned (.bool (!b)) ∧ Below w0.heap.size w0 w' ∧ w'.heap[gl]? = some (.cells #[.int .i64 L] 3 (0, 0)) ∧ KeepBut w w' gl none := by
  have HB := Aside0.mk hB
  have HG := Aside0.mk hg
  have HD := Aside0.mk hd
  have HP := Aside0.mk hp
  have HS := Aside0.mk hB.size
  have hu31 := Tryz.underlying31
  clear hB hg hd hp
  have e68 : ∀ args w, (callFunc 68 args).run Tryz.prog w = .ok (.enter 68 args) w := enters_of Tryz.func68 (by kernel_rfl) rfl
  go_enter Tryz.func114, Tryz.ntmps114
  go_wp2_with (first
    | ((with_reducible refine gate_dst (N := 3) rfl ?_); refine bev (cells31 x A c) 31 ?_; intro gx hgx w1 hbox hb1
       have HX := Aside0.mk hbox; have HG1 := Aside0.mk (blk_below HG.out hb1); have HD1 := Aside0.mk (blk_below HD.out hb1); have HP1 := Aside0.mk (blk_below HP.out hb1)
       have HB1 := Aside0.mk (HB.out.trans (hb1.mono HS.out)); have HK1 := Aside0.mk (KeepBut.of_below hb1 gl none)
       have hcx := cz8 HX.out; have hcd := czc1 HD1.out; have hcp := czc1 HP1.out; obtain ⟨q0, q1, q2, q3, q4, q5, q6, q7, _⟩ := hcx; clear hgx hbox hb1)
    | (go_at_call 68; refine (ih x A c (wrap64 (d + 1)) left gl b L w0 _ hC hc hT HB1.out HG1.out hge h).mono ?_; rintro e w2 ⟨rfl, hb2, hg2, hk2⟩))
  go_ret
  exact ⟨rfl, hb2, hg2, KeepBut.trans HK1.out hk2 (.inl rfl)⟩
theorem drop_at {l : List S31} {i : Nat} (h : i < l.length) : l.drop i = rd_T31 l (i : Int) :: l.drop (i + 1) := by
  rw [List.drop_eq_getElem_cons h]
  congr 1
  show _ = l.getD (Int.toNat (i : Int)) z31
  rw [Int.toNat_natCast, List.getD_eq_getElem?_getD, List.getElem?_eq_getElem h, Option.getD_some]
set_option maxHeartbeats 4000000 in
set_option maxRecDepth 100000 in
theorem idx31 {k : Nat} (ih : SoundAt k) (l : List S31) (A0 : Option Addr) (c0 : Nat) (d left : Int) (gl bd bp : Nat) (b : Bool) (L : Int) (w0 w : World) (hC : Kd.C k31 w0 A0 l.length l) (hT : Tabs w0) (hB : Below w0.heap.size w0 w) (hg : w.heap[gl]? = some (.cells #[.int .i64 left] 3 (0, 0))) (hge : w0.heap.size ≤ gl)
    (hd : w.heap[bd]? = some (.cells #[.int .i64 d] 3 (0, 0))) (hp : w.heap[bp]? = some (.cells #[.pointer (some ⟨gl, 0, none⟩)] 98 (0, 0))) (hnd : bd ≠ gl) (hnp : bp ≠ gl) (hbig : l.length < 4611686018427387904) (h : allSound (fun y L => soundF k y (wrap64 (d + 1)) L) l left = some (b, L)) :
    Calls Tryz.prog 154 #[.slice A0 l.length c0, .func (.func 114) #[] #[.pointer (some ⟨bd, 0, none⟩), .pointer (some ⟨bp, 0, none⟩)]] w fun e w' => ∃ i : Int, e = .returned (.int .i64 i) ∧ decide (0 ≤ i) = !b ∧ Below w0.heap.size w0 w' ∧ w'.heap[gl]? = some (.cells #[.int .i64 L] 3 (0, 0)) ∧ KeepBut w w' gl none := by
  have eg : ∀ args w, (callFunc 114 args).run Tryz.prog w = .ok (.enter 114 args) w := enters_of Tryz.func114 (by kernel_rfl) rfl
  have hu31 := Tryz.underlying31
  have H0 : Aside0 (allSound (fun y L => soundF k y (wrap64 (d + 1)) L) (l.drop 0) left = some (b, L)) := ⟨h⟩
  have HC := Aside0.mk hC
  have HB := Aside0.mk hB
  have HG := Aside0.mk hg
  have HD := Aside0.mk hd
  have HP := Aside0.mk hp
  clear h hC hB hg hd hp
  go_enter Tryz.func154, Tryz.ntmps154
  go_wp2
  go_loopg [5, 8] l.length (fun gg _ s8 wr => ∃ (kk : Nat) (Lk : Int), kk + gg = l.length ∧ s8 = .int .i64 kk ∧ Aside0 (allSound (fun y L => soundF k y (wrap64 (d + 1)) L) (l.drop kk) Lk = some (b, L)) ∧ Aside0 (Below w0.heap.size w0 wr) ∧ Aside0 (wr.heap[gl]? = some (.cells #[.int .i64 Lk] 3 (0, 0))) ∧ Aside0 (KeepBut w wr gl none))
  case atStart => exact ⟨0, left, Nat.zero_add _, rfl, H0, HB, HG, ⟨KeepBut.refl w gl none⟩⟩
  case round =>
    obtain ⟨kk, Lk, hkg, rfl, HA, HB1, HG1, HK1⟩ := hrel
    cases gk with
    | zero =>
      have d1 : decide ((kk : Int) < (l.length : Int)) = false := decide_eq_false (by omega)
      have hA := HA.out
      rw [List.drop_eq_nil_of_le (by omega)] at hA
      simp only [allSound, Option.some.injEq, Prod.mk.injEq] at hA
      obtain ⟨rfl, rfl⟩ := hA
      go_wp2
      go_ret
      exact ⟨_, rfl, rfl, HB1.out, HG1.out, HK1.out⟩
    | succ n =>
      have d1 : decide ((kk : Int) < (l.length : Int)) = true := decide_eq_true (by omega)
      have p1 : (0 : Int) ≤ (kk : Int) := by omega
      have q1 : (kk : Int) < (l.length : Int) := by omega
      obtain ⟨ad, A7, c7, e1, h0, h1, h2, h3, h4, h5, h6, h7, l7, g7⟩ := at_T31 HC.out (kk : Int) p1 q1
      cases e1
      have hA := HA.out
      rw [drop_at (by omega)] at hA
      generalize hy : rd_T31 l (kk : Int) = y at hA h0 h1 h2 h3 h4 h5 h6 h7 l7 g7
      clear hy
      have h0 : wr.cell? (ad.add (kk * 8)) = some (.int .i64 y.f0) := pw_cell_below HB1.out h0
      have h1 : wr.cell? ⟨(ad.add (kk * 8)).block, (ad.add (kk * 8)).off + 1, none⟩ = some (.int .i64 y.f1.f0) := pw_cell_below HB1.out h1
      have h2 : wr.cell? ⟨(ad.add (kk * 8)).block, (ad.add (kk * 8)).off + 2, none⟩ = some (.int .i64 y.f1.f1.f0) := pw_cell_below HB1.out h2
      have h3 : wr.cell? ⟨(ad.add (kk * 8)).block, (ad.add (kk * 8)).off + 3, none⟩ = some (.int .i64 y.f1.f1.f1) := pw_cell_below HB1.out h3
      have h4 : wr.cell? ⟨(ad.add (kk * 8)).block, (ad.add (kk * 8)).off + 4, none⟩ = some (.string y.f1.f2) := pw_cell_below HB1.out h4
      have h5 : wr.cell? ⟨(ad.add (kk * 8)).block, (ad.add (kk * 8)).off + 5, none⟩ = some (.int .i64 y.f1.f3) := pw_cell_below HB1.out h5
      have h6 : wr.cell? ⟨(ad.add (kk * 8)).block, (ad.add (kk * 8)).off + 6, none⟩ = some (.string y.f2) := pw_cell_below HB1.out h6
      have h7 : wr.cell? ⟨(ad.add (kk * 8)).block, (ad.add (kk * 8)).off + 7, none⟩ = some (.slice A7 y.f3.length c7) := pw_cell_below HB1.out h7
      have i1 := eq_true p1
      have i2 := eq_true q1
      have i3 : (kk < l.length) = True := eq_true (by omega)
      simp only [allSound] at hA
      replace hA := Option.bind_eq_some_iff.mp hA
      obtain ⟨⟨b1, L1⟩, hIs, hA⟩ := hA
      have hd1 : wr.heap[bd]? = some (.cells #[.int .i64 d] 3 (0, 0)) := (HK1.out.2 bd (blk_lt HD.out) hnd (by simp)).trans HD.out
      have hp1 : wr.heap[bp]? = some (.cells #[.pointer (some ⟨gl, 0, none⟩)] 98 (0, 0)) := (HK1.out.2 bp (blk_lt HP.out) hnp (by simp)).trans HP.out
      have cI := sound1_calls ih y A7 c7 d Lk gl bd bp b1 L1 w0 wr g7 l7 hT HB1.out HG1.out hge hd1 hp1 hIs
      have HA2 := Aside0.mk hA
      clear hA hIs hd1 hp1 g7 l7
      cases b1 with
      | true =>
        have hr := HA2.out
        simp only [if_true] at hr
        have HA3 := Aside0.mk hr
        clear hr
        go_wp2_with (go_at_fn 114; refine cI.mono ?_; rintro e w' ⟨rfl, hb, hg, hk⟩)
        go_roundg n
        case measure => omega
        case rel => exact ⟨kk + 1, L1, by omega, by go_num, HA3, ⟨hb⟩, ⟨hg⟩, ⟨KeepBut.trans HK1.out hk (.inl rfl)⟩⟩
      | false =>
        have hr := HA2.out
        simp only [Bool.false_eq_true, if_false, Option.some.injEq, Prod.mk.injEq] at hr
        obtain ⟨rfl, rfl⟩ := hr
        go_wp2_with (go_at_fn 114; refine cI.mono ?_; rintro e w' ⟨rfl, hb, hg, hk⟩)
        go_ret
        exact ⟨_, rfl, by simp, hb, hg, KeepBut.trans HK1.out hk (.inl rfl)⟩
set_option maxHeartbeats 4000000 in
theorem has31 {k : Nat} (ih : SoundAt k) (l : List S31) (A0 : Option Addr) (c0 : Nat) (d left : Int) (gl bd bp : Nat) (b : Bool) (L : Int) (w0 w : World) (hC : Kd.C k31 w0 A0 l.length l) (hT : Tabs w0) (hB : Below w0.heap.size w0 w) (hg : w.heap[gl]? = some (.cells #[.int .i64 left] 3 (0, 0))) (hge : w0.heap.size ≤ gl)
    (hd : w.heap[bd]? = some (.cells #[.int .i64 d] 3 (0, 0))) (hp : w.heap[bp]? = some (.cells #[.pointer (some ⟨gl, 0, none⟩)] 98 (0, 0))) (hnd : bd ≠ gl) (hnp : bp ≠ gl) (hbig : l.length < 4611686018427387904) (h : allSound (fun y L => soundF k y (wrap64 (d + 1)) L) l left = some (b, L)) :
    Calls Tryz.prog 113 #[.slice A0 l.length c0, .func (.func 114) #[] #[.pointer (some ⟨bd, 0, none⟩), .pointer (some ⟨bp, 0, none⟩)]] w fun e w' => e = .returned (.bool (!b)) ∧ Below w0.heap.size w0 w' ∧ w'.heap[gl]? = some (.cells #[.int .i64 L] 3 (0, 0)) ∧ KeepBut w w' gl none := by
  have cI := idx31 ih l A0 c0 d left gl bd bp b L w0 w hC hT hB hg hge hd hp hnd hnp hbig h
  clear hC hT hB hg hge hd hp hnd hnp hbig h
  go_enter Tryz.func113, Tryz.ntmps113
  go_wp2_with (go_at_call 154; refine cI.mono ?_; rintro e w' ⟨i, rfl, hi, hb, hg, hk⟩)
  go_ret
  exact ⟨by rw [← hi] <;> rfl, hb, hg, hk⟩
attribute [local go_sem high] eqA25
theorem bytes_nil {b : ByteArray} (h : b.toList = []) : b = ⟨#[]⟩ := by
  rw [Lib.toList_data] at h
  obtain ⟨⟨l⟩⟩ := b
  simp at h
  subst h
  rfl
theorem nz_false {vk vn vs vx : Int} {vt : ByteArray} (hz : ¬ (vk = 0 ∧ vn = 0 ∧ vs = 0 ∧ vt = (⟨#[]⟩ : ByteArray) ∧ vx = 0)) : (vk == 0 && ((vn == 0 && (vs == 0)) && (vt.toList == ([] : List UInt8) && (vx == 0)))) = false := by
  rw [Bool.eq_false_iff]
  intro q
  simp only [Bool.and_eq_true, beq_iff_eq] at q
  exact hz ⟨q.1, q.2.1.1, q.2.1.2, bytes_nil q.2.2.1, q.2.2.2⟩
set_option maxHeartbeats 8000000 in
set_option maxRecDepth 100000 in
theorem sound_step {k : Nat} (ih : SoundAt k) : SoundAt (k + 1) := by
  rintro ⟨op, ⟨vk, ⟨vn, vs⟩, vt, vx⟩, nm, l⟩ A c d left gl b L w0 w hC hc hT hB hg hge h
  simp only [soundF] at h
  have HC := Aside0.mk hC
  have Hc := Aside0.mk hc
  have HT := Aside0.mk hT
  have HB := Aside0.mk hB
  have HG := Aside0.mk hg
  have HE := Aside0.mk hge
  have HL := Aside0.mk (blk_lt hg)
  have HS := Aside0.mk hB.size
  have H := Aside0.mk h
  have hu31 := Tryz.underlying31
  have hu25 := Tryz.underlying25
  have hu23 := Tryz.underlying23
  clear hC hc hT hB hg hge h
  go_enter Tryz.func68, Tryz.ntmps68
  go_upto_region 2 with (first
    | ((with_reducible refine gate_dst (N := 3) rfl ?_); refine bev (cells31 ⟨op, ⟨vk, ⟨vn, vs⟩, vt, vx⟩, nm, l⟩ A c) 31 ?_; intro gx hgx w1 hbox hb1
       have HX := Aside0.mk hbox; replace HG := Aside0.mk (blk_below HG.out hb1); replace HB := Aside0.mk (HB.out.trans (hb1.mono HS.out)); have HK := Aside0.mk (KeepBut.of_below hb1 gl none)
       have hxg : gx ≠ gl := by have := HL.out; omega
       have hgx1 : gl ≠ gx := hxg.symm
       replace HL := Aside0.mk (blk_lt HG.out); replace HS := Aside0.mk HB.out.size; clear hgx hbox hb1)
    | ((with_reducible refine gate_dst (N := 4) rfl ?_); refine bev (#[.int .i64 d]) 3 ?_; intro gd hgd w2 hbox hb1
       have HD := Aside0.mk hbox; have hdx := nlt hgd (blk_lt HX.out); have hxd := hdx.symm; replace HX := Aside0.mk (blk_below HX.out hb1); replace HG := Aside0.mk (blk_below HG.out hb1); replace HB := Aside0.mk (HB.out.trans (hb1.mono HS.out)); replace HK := Aside0.mk (KeepBut.trans HK.out (KeepBut.of_below hb1 gl none) (.inl rfl))
       have hdg : gd ≠ gl := by have := HL.out; omega
       have hgd1 : gl ≠ gd := hdg.symm
       replace HL := Aside0.mk (blk_lt HG.out); replace HS := Aside0.mk HB.out.size; clear hgd hbox hb1)
    | ((with_reducible refine gate_dst (N := 5) rfl ?_); refine bev (#[.pointer (some ⟨gl, 0, none⟩)]) 98 ?_; intro gp hgp w3 hbox hb1
       have HP := Aside0.mk hbox; have hpx := nlt hgp (blk_lt HX.out); have hpd := nlt hgp (blk_lt HD.out); replace HD := Aside0.mk (blk_below HD.out hb1); replace HX := Aside0.mk (blk_below HX.out hb1); replace HG := Aside0.mk (blk_below HG.out hb1); replace HB := Aside0.mk (HB.out.trans (hb1.mono HS.out)); replace HK := Aside0.mk (KeepBut.trans HK.out (KeepBut.of_below hb1 gl none) (.inl rfl))
       have hpg : gp ≠ gl := by have := HL.out; omega
       have hgp1 : gl ≠ gp := hpg.symm
       have hcp := czc1 HP.out; obtain ⟨hcg, hfg⟩ := cz1 HG.out
       clear hgp hbox hb1))
  have HX2 := Aside0.mk (blk_far HX.out hxg (p := ⟨gl, 0, none⟩) (.int .i64 (wrap64 (left - 1))))
  have HD2 := Aside0.mk (blk_far HD.out hdg (p := ⟨gl, 0, none⟩) (.int .i64 (wrap64 (left - 1))))
  have HP2 := Aside0.mk (blk_far HP.out hpg (p := ⟨gl, 0, none⟩) (.int .i64 (wrap64 (left - 1))))
  have HG2 := Aside0.mk (blk_put (cs := #[.int .i64 left]) (cs' := #[.int .i64 (wrap64 (left - 1))]) HG.out 0 (.int .i64 (wrap64 (left - 1))) rfl)
  have HB2 := Aside0.mk (HB.out.setCell (p := ⟨gl, 0, none⟩) HE.out (.int .i64 (wrap64 (left - 1))))
  have HK2 := Aside0.mk (KeepBut.set_ HK.out 0 (.int .i64 (wrap64 (left - 1))))
  (try simp only [Act.put, List.setIfInBounds_toArray, List.set_cons_zero, List.set_cons_succ])
  obtain ⟨Lv, hLv⟩ : ∃ Lv, wrap64 (left - 1) = Lv := ⟨_, rfl⟩
  rw [hLv] at HX2 HD2 HP2 HG2 HB2 HK2 H ⊢
  obtain ⟨W, hW⟩ : ∃ W, w3.setCell ⟨gl, 0, none⟩ (.int .i64 Lv) = W := ⟨_, rfl⟩
  rw [hW] at HX2 HD2 HP2 HG2 HB2 HK2 ⊢
  clear hW hLv HX HD HP HG HB HK hcp hcg hfg HL HS
  refine start_ (n := 17) (S := fun w' => w'.cell? ⟨gd, 0, none⟩ = some (.int .i64 d) ∧ w'.cell? ⟨gp, 0, none⟩ = some (.pointer (some ⟨gl, 0, none⟩)) ∧ w'.cell? ⟨gl, 0, none⟩ = some (.int .i64 Lv) ∧ w'.cell? ⟨gx, 7, none⟩ = some (.slice A l.length c) ∧ w'.cell? ⟨gx, 0, none⟩ = some (.int .i64 op)) (ds := []) (bts 17 0) (by kernel_rfl) rfl rfl ⟨czc1 HD2.out, czc1 HP2.out, czc1 HG2.out, (blk_cell HX2.out 7).trans rfl, (blk_cell HX2.out 0).trans rfl⟩ (fun hHeld => ?_)
  replace HX2 := Aside0.mk (blk_drew HX2.out)
  replace HD2 := Aside0.mk (blk_drew HD2.out)
  replace HP2 := Aside0.mk (blk_drew HP2.out)
  replace HG2 := Aside0.mk (blk_drew HG2.out)
  replace HB2 := Aside0.mk (below_drew1 HB2.out)
  replace HK2 := Aside0.mk (keep_drew HK2.out)
  generalize W.drew = W1 at HX2 HD2 HP2 HG2 HB2 HK2 hHeld ⊢
  refine ta 0 (some 12) (bts 17 1) (by kernel_rfl) hHeld ?_
  by_cases hd : 64 < d
  · have f64 : decide (64 < d) = true := decide_eq_true hd
    have hA := H.out
    rw [if_pos hd] at hA
    simp only [Option.some.injEq, Prod.mk.injEq] at hA
    obtain ⟨rfl, rfl⟩ := hA
    refine pu 1 (some 13) (bts 17 3) (by kernel_rfl) ?_
    refine pu 2 (some 14) (bts 17 7) (by kernel_rfl) ?_
    refine pn 3 (some 15) (bts 17 15) (by kernel_rfl) ?_
    refine pn 4 (some 16) (bts 17 31) (by kernel_rfl) ?_
    refine pn 5 (some 17) (bts 17 63) (by kernel_rfl) ?_
    refine pn 6 (some 18) (bts 17 127) (by kernel_rfl) ?_
    refine pu 7 (some 19) (bts 17 255) (by kernel_rfl) ?_
    refine pu 8 (some 20) (bts 17 511) (by kernel_rfl) ?_
    refine pn 9 (some 21) (bts 17 1023) (by kernel_rfl) ?_
    refine pn 10 (some 22) (bts 17 2047) (by kernel_rfl) ?_
    refine pn 11 (some 23) (bts 17 4095) (by kernel_rfl) ?_
    refine pn 12 (some 24) (bts 17 8191) (by kernel_rfl) ?_
    refine pn 13 (some 25) (bts 17 16383) (by kernel_rfl) ?_
    refine pn 14 (some 26) (bts 17 32767) (by kernel_rfl) ?_
    refine pn 15 (some 27) (bts 17 65535) (by kernel_rfl) ?_
    refine pu 16 (some 28) (bts 17 131071) (by kernel_rfl) ?_
    refine done_ (by kernel_rfl) ?_
    go_wp2
    go_ret
    exact ⟨rfl, HB2.out, HG2.out, HK2.out⟩
  have f64 : decide (64 < d) = false := decide_eq_false hd
  replace H := Aside0.mk (show _ from by have hA := H.out; rw [if_neg hd] at hA; exact hA)
  refine pu 1 (some 13) (bts 17 3) (by kernel_rfl) ?_
  refine pu 2 (some 14) (bts 17 7) (by kernel_rfl) ?_
  refine ta 3 (some 15) (bts 17 15) (by kernel_rfl) hHeld ?_
  refine pu 4 (some 16) (bts 17 31) (by kernel_rfl) ?_
  refine ta 5 (some 17) (bts 17 63) (by kernel_rfl) hHeld ?_
  by_cases hn : Lv < 0
  · have fn : decide (Lv < 0) = true := decide_eq_true hn
    have hA := H.out
    rw [if_pos hn] at hA
    simp only [Option.some.injEq, Prod.mk.injEq] at hA
    obtain ⟨rfl, rfl⟩ := hA
    refine pu 6 (some 18) (bts 17 127) (by kernel_rfl) ?_
    refine pu 7 (some 19) (bts 17 255) (by kernel_rfl) ?_
    refine pu 8 (some 20) (bts 17 511) (by kernel_rfl) ?_
    refine pn 9 (some 21) (bts 17 1023) (by kernel_rfl) ?_
    refine pn 10 (some 22) (bts 17 2047) (by kernel_rfl) ?_
    refine pn 11 (some 23) (bts 17 4095) (by kernel_rfl) ?_
    refine pn 12 (some 24) (bts 17 8191) (by kernel_rfl) ?_
    refine pn 13 (some 25) (bts 17 16383) (by kernel_rfl) ?_
    refine pn 14 (some 26) (bts 17 32767) (by kernel_rfl) ?_
    refine pn 15 (some 27) (bts 17 65535) (by kernel_rfl) ?_
    refine pu 16 (some 28) (bts 17 131071) (by kernel_rfl) ?_
    refine done_ (by kernel_rfl) ?_
    go_wp2
    go_ret
    exact ⟨rfl, HB2.out, HG2.out, HK2.out⟩
  have fn : decide (Lv < 0) = false := decide_eq_false hn
  replace H := Aside0.mk (show _ from by have hA := H.out; rw [if_neg hn] at hA; exact hA)
  refine pu 6 (some 18) (bts 17 127) (by kernel_rfl) ?_
  refine pu 7 (some 19) (bts 17 255) (by kernel_rfl) ?_
  refine pu 8 (some 20) (bts 17 511) (by kernel_rfl) ?_
  refine pu 9 (some 21) (bts 17 1023) (by kernel_rfl) ?_
  refine ta 10 (some 22) (bts 17 2047) (by kernel_rfl) hHeld ?_
  refine pu 11 (some 23) (bts 17 4095) (by kernel_rfl) ?_
  refine pu 12 (some 24) (bts 17 8191) (by kernel_rfl) ?_
  refine ta 13 (some 25) (bts 17 16383) (by kernel_rfl) hHeld ?_
  have hA := H.out
  replace hA := Option.bind_eq_some_iff.mp hA
  obtain ⟨n, hkn, hA⟩ := hA
  have cN := expr_kids.calls k op n W1 hkn
  replace H := Aside0.mk hA
  clear hA
  refine one_ (i := 14) (N := some 26) (bts 17 32767) rfl rfl (by kernel_rfl) (by decide) (fun K hK => ?_)
  refine goes_ Tryz.func111 (by kernel_rfl) rfl #[.int .i64 op] (by rfl) rfl rfl lz ?_
  refine cN.mono ?_
  rintro e w' ⟨rfl, nd, rfl⟩
  refine ⟨_, rfl, ?_⟩
  replace HX2 := Aside0.mk (blk_drewN HX2.out nd)
  replace HD2 := Aside0.mk (blk_drewN HD2.out nd)
  replace HP2 := Aside0.mk (blk_drewN HP2.out nd)
  replace HG2 := Aside0.mk (blk_drewN HG2.out nd)
  replace HB2 := Aside0.mk (pw_below_drewN HB2.out nd)
  replace HK2 := Aside0.mk (keep_drewN HK2.out nd)
  refine hK.out _ _ ⟨hHeld.1, hHeld.2.1, hHeld.2.2.1, hHeld.2.2.2.1, hHeld.2.2.2.2⟩ (fun hHeld => ?_)
  clear hK K cN
  generalize W1.drewN nd = W2 at HX2 HD2 HP2 HG2 HB2 HK2 hHeld ⊢
  refine norm_ (a' := ?_) ?_ ?_
  rotate_left
  · show Act.put _ (some 26) _ = _
    simp only [Act.put, List.setIfInBounds_toArray, List.set_cons_zero, List.set_cons_succ, i64_w, i32_w]
    rfl
  clear hkn
  by_cases hln : (l.length : Int) = n
  rotate_left
  · have fe : ((l.length : Int) != n) = true := bne_iff_ne.mpr hln
    have hA := H.out
    rw [if_pos hln] at hA
    simp only [Option.some.injEq, Prod.mk.injEq] at hA
    obtain ⟨rfl, rfl⟩ := hA
    refine pu 15 (some 27) (bts 17 65535) (by kernel_rfl) ?_
    refine pu 16 (some 28) (bts 17 131071) (by kernel_rfl) ?_
    refine done_ (by kernel_rfl) ?_
    go_wp2
    go_ret
    exact ⟨rfl, HB2.out, HG2.out, HK2.out⟩
  have fe : ((l.length : Int) != n) = false := bne_eq_false_iff_eq.mpr hln
  replace H := Aside0.mk (show _ from by have hA := H.out; rw [if_neg (not_not_intro hln)] at hA; exact hA)
  refine pu 15 (some 27) (bts 17 65535) (by kernel_rfl) ?_
  refine pu 16 (some 28) (bts 17 131071) (by kernel_rfl) ?_
  refine done_ (by kernel_rfl) ?_
  clear fe hln hHeld f64 fn hd hn
  obtain ⟨x0, x1, x2, x3, x4, x5, x6, x7, z0, z1, z2, z3, z4, z5, z6, z7⟩ := cz8 HX2.out
  have y0 := czc1 HD2.out
  have y1 := czc1 HP2.out
  have hA := H.out
  replace hA := Option.bind_eq_some_iff.mp hA
  obtain ⟨bad, hbp, hA⟩ := hA
  replace H := Aside0.mk hA
  clear hA
  unfold badPart at hbp
  simp only at hbp
  have hnz : nm.toList.isEmpty = (nm.toList == []) := isEmpty_beq _
  cases e2 : (op == 2) <;> cases en : (nm.toList == ([] : List UInt8))
  ·
    have e3 : (nm.toList != ([] : List UInt8)) = true := by simp only [bne, en]; rfl
    rw [e2, e3] at hbp
    simp only [Bool.false_bne, if_true] at hbp
    obtain rfl := Option.some.inj hbp
    have hA := H.out
    simp only [if_true, Option.some.injEq, Prod.mk.injEq] at hA
    obtain ⟨rfl, rfl⟩ := hA
    rw [en] at hnz
    go_wp2
    go_ret
    exact ⟨rfl, HB2.out, HG2.out, HK2.out⟩
  ·
    have e3 : (nm.toList != ([] : List UInt8)) = false := by simp only [bne, en]; rfl
    rw [e2, e3] at hbp
    rw [en] at hnz
    have ho2 : ¬ op = 2 := beq_eq_false_iff_ne.mp e2
    simp only [bne_self_eq_false, Bool.false_eq_true, if_false, ho2, Option.bind_some] at hbp
    by_cases ho1 : op = 1
    · subst ho1
      simp only [ne_eq, not_true_eq_false, false_and, if_false] at hbp
      obtain ⟨okv, hv, hbp⟩ := Option.bind_eq_some_iff.mp hbp
      have f1 : ((1 : Int) == 2) = false := rfl
      cases okv with
      | false =>
        simp only [Bool.not_false, Bool.true_or, Option.some.injEq] at hbp
        subst hbp
        have hA := H.out
        simp only [if_true, Option.some.injEq, Prod.mk.injEq] at hA
        obtain ⟨rfl, rfl⟩ := hA
        go_wp2_with (first | (go_at_call 38; refine (value_Sound.calls k vk vn vs vt vx _ _ (tabs_of HT.out HB2.out) hv).mono ?_; rintro e w5 ⟨rfl, hb⟩; replace HX2 := Aside0.mk (blk_below HX2.out hb); replace HD2 := Aside0.mk (blk_below HD2.out hb); replace HP2 := Aside0.mk (blk_below HP2.out hb); replace HG2 := Aside0.mk (blk_below HG2.out hb); replace HB2 := Aside0.mk (HB2.out.trans (hb.mono HB2.out.size)); replace HK2 := Aside0.mk (KeepBut.trans HK2.out (KeepBut.of_below hb gl none) (.inl rfl)); obtain ⟨x0, x1, x2, x3, x4, x5, x6, x7, z0, z1, z2, z3, z4, z5, z6, z7⟩ := cz8 HX2.out; have y0 := czc1 HD2.out; have y1 := czc1 HP2.out; clear hb))
        go_ret
        exact ⟨rfl, HB2.out, HG2.out, HK2.out⟩
      | true =>
        simp only [Bool.not_true, Bool.false_or, Option.some.injEq] at hbp
        by_cases hvn : vn < 0
        · have fv : decide (vn < 0) = true := decide_eq_true hvn
          rw [fv] at hbp
          subst hbp
          have hA := H.out
          simp only [if_true, Option.some.injEq, Prod.mk.injEq] at hA
          obtain ⟨rfl, rfl⟩ := hA
          go_wp2_with (first | (go_at_call 38; refine (value_Sound.calls k vk vn vs vt vx _ _ (tabs_of HT.out HB2.out) hv).mono ?_; rintro e w5 ⟨rfl, hb⟩; replace HX2 := Aside0.mk (blk_below HX2.out hb); replace HD2 := Aside0.mk (blk_below HD2.out hb); replace HP2 := Aside0.mk (blk_below HP2.out hb); replace HG2 := Aside0.mk (blk_below HG2.out hb); replace HB2 := Aside0.mk (HB2.out.trans (hb.mono HB2.out.size)); replace HK2 := Aside0.mk (KeepBut.trans HK2.out (KeepBut.of_below hb gl none) (.inl rfl)); obtain ⟨x0, x1, x2, x3, x4, x5, x6, x7, z0, z1, z2, z3, z4, z5, z6, z7⟩ := cz8 HX2.out; have y0 := czc1 HD2.out; have y1 := czc1 HP2.out; clear hb))
          go_ret
          exact ⟨rfl, HB2.out, HG2.out, HK2.out⟩
        · have fv : decide (vn < 0) = false := decide_eq_false hvn
          rw [fv] at hbp
          subst hbp
          have hA := H.out
          simp only [Bool.false_eq_true, if_false] at hA
          have hbig : l.length < 4611686018427387904 := by
            split at hA
            · assumption
            · cases hA
          rw [if_pos hbig] at hA
          have hall := hA
          clear hA
          go_wp2_with (first | (go_at_call 38; refine (value_Sound.calls k vk vn vs vt vx _ _ (tabs_of HT.out HB2.out) hv).mono ?_; rintro e w5 ⟨rfl, hb⟩; replace HX2 := Aside0.mk (blk_below HX2.out hb); replace HD2 := Aside0.mk (blk_below HD2.out hb); replace HP2 := Aside0.mk (blk_below HP2.out hb); replace HG2 := Aside0.mk (blk_below HG2.out hb); replace HB2 := Aside0.mk (HB2.out.trans (hb.mono HB2.out.size)); replace HK2 := Aside0.mk (KeepBut.trans HK2.out (KeepBut.of_below hb gl none) (.inl rfl)); obtain ⟨x0, x1, x2, x3, x4, x5, x6, x7, z0, z1, z2, z3, z4, z5, z6, z7⟩ := cz8 HX2.out; have y0 := czc1 HD2.out; have y1 := czc1 HP2.out; clear hb) | (go_at_call 113; refine (has31 ih l A c d Lv gl gd gp b L w0 _ HC.out HT.out HB2.out HG2.out HE.out HD2.out HP2.out hdg hpg hbig hall).mono ?_; rintro e w6 ⟨rfl, hb, hg, hk⟩))
          go_ret
          exact ⟨rfl, hb, hg, KeepBut.trans HK2.out hk (.inl rfl)⟩
    · have fo : (op == 1) = false := beq_eq_false_iff_ne.mpr ho1
      have fo' : (op != 1) = true := bne_iff_ne.mpr ho1
      have fo2 : (op != 2) = true := bne_iff_ne.mpr ho2
      by_cases hz : vk = 0 ∧ vn = 0 ∧ vs = 0 ∧ vt = (⟨#[]⟩ : ByteArray) ∧ vx = 0
      · rw [if_neg (fun q => q.2 hz)] at hbp
        obtain ⟨rfl, rfl, rfl, rfl, rfl⟩ := hz
        obtain ⟨okv, hv, hbp⟩ := Option.bind_eq_some_iff.mp hbp
        cases okv with
        | false =>
          simp only [Bool.not_false, Bool.true_or, Option.some.injEq] at hbp
          subst hbp
          have hA := H.out
          simp only [if_true, Option.some.injEq, Prod.mk.injEq] at hA
          obtain ⟨rfl, rfl⟩ := hA
          go_wp2_with (first | (go_at_call 38; refine (value_Sound.calls k 0 0 0 (⟨#[]⟩ : ByteArray) 0 _ _ (tabs_of HT.out HB2.out) hv).mono ?_; rintro e w5 ⟨rfl, hb⟩; replace HX2 := Aside0.mk (blk_below HX2.out hb); replace HD2 := Aside0.mk (blk_below HD2.out hb); replace HP2 := Aside0.mk (blk_below HP2.out hb); replace HG2 := Aside0.mk (blk_below HG2.out hb); replace HB2 := Aside0.mk (HB2.out.trans (hb.mono HB2.out.size)); replace HK2 := Aside0.mk (KeepBut.trans HK2.out (KeepBut.of_below hb gl none) (.inl rfl)); obtain ⟨x0, x1, x2, x3, x4, x5, x6, x7, z0, z1, z2, z3, z4, z5, z6, z7⟩ := cz8 HX2.out; have y0 := czc1 HD2.out; have y1 := czc1 HP2.out; clear hb))
          go_ret
          exact ⟨rfl, HB2.out, HG2.out, HK2.out⟩
        | true =>
          simp only [Bool.not_true, Bool.false_or, Option.some.injEq] at hbp
          replace hbp : false = bad := (show decide ((0 : Int) < 0) = false from rfl).symm.trans hbp
          subst hbp
          have hA := H.out
          simp only [Bool.false_eq_true, if_false] at hA
          have hbig : l.length < 4611686018427387904 := by
            split at hA
            · assumption
            · cases hA
          rw [if_pos hbig] at hA
          have hall := hA
          clear hA
          go_wp2_with (first | (go_at_call 38; refine (value_Sound.calls k 0 0 0 (⟨#[]⟩ : ByteArray) 0 _ _ (tabs_of HT.out HB2.out) hv).mono ?_; rintro e w5 ⟨rfl, hb⟩; replace HX2 := Aside0.mk (blk_below HX2.out hb); replace HD2 := Aside0.mk (blk_below HD2.out hb); replace HP2 := Aside0.mk (blk_below HP2.out hb); replace HG2 := Aside0.mk (blk_below HG2.out hb); replace HB2 := Aside0.mk (HB2.out.trans (hb.mono HB2.out.size)); replace HK2 := Aside0.mk (KeepBut.trans HK2.out (KeepBut.of_below hb gl none) (.inl rfl)); obtain ⟨x0, x1, x2, x3, x4, x5, x6, x7, z0, z1, z2, z3, z4, z5, z6, z7⟩ := cz8 HX2.out; have y0 := czc1 HD2.out; have y1 := czc1 HP2.out; clear hb) | (go_at_call 113; refine (has31 ih l A c d Lv gl gd gp b L w0 _ HC.out HT.out HB2.out HG2.out HE.out HD2.out HP2.out hdg hpg hbig hall).mono ?_; rintro e w6 ⟨rfl, hb, hg, hk⟩))
          go_ret
          exact ⟨rfl, hb, hg, KeepBut.trans HK2.out hk (.inl rfl)⟩
      · rw [if_pos ⟨ho1, hz⟩] at hbp
        obtain rfl := Option.some.inj hbp
        have hA := H.out
        simp only [if_true, Option.some.injEq, Prod.mk.injEq] at hA
        obtain ⟨rfl, rfl⟩ := hA
        have hb5 : (vk == 0 && ((vn == 0 && (vs == 0)) && (vt.toList == ([] : List UInt8) && (vx == 0)))) = false := nz_false hz
        have hb6 : (vk == 0 && ((vn == 0 && (vs == 0)) && (vt.toList.isEmpty && (vx == 0)))) = false := by rw [isEmpty_beq]; exact hb5
        go_wp2
        go_ret
        exact ⟨rfl, HB2.out, HG2.out, HK2.out⟩
  ·
    have e3 : (nm.toList != ([] : List UInt8)) = true := by simp only [bne, en]; rfl
    rw [e2, e3] at hbp
    rw [en] at hnz
    have ho2 : op = 2 := beq_iff_eq.mp e2
    subst ho2
    simp only [bne_self_eq_false, Bool.false_eq_true, if_false, if_true] at hbp
    obtain ⟨b1, hw0, hbp⟩ := Option.bind_eq_some_iff.mp hbp
    obtain ⟨okw, hw, e1⟩ := Option.bind_eq_some_iff.mp hw0
    have e1 := Option.some.inj e1
    subst e1
    clear hw0
    cases okw with
    | false =>
      simp only [Bool.not_false, if_true] at hbp
      obtain rfl := Option.some.inj hbp
      have hA := H.out
      simp only [if_true, Option.some.injEq, Prod.mk.injEq] at hA
      obtain ⟨rfl, rfl⟩ := hA
      go_wp2_with (first | (go_at_call 112; refine (lex_Word.calls k nm _ _ hw).mono ?_; rintro e w5 ⟨rfl, hb⟩; replace HX2 := Aside0.mk (blk_below HX2.out hb); replace HD2 := Aside0.mk (blk_below HD2.out hb); replace HP2 := Aside0.mk (blk_below HP2.out hb); replace HG2 := Aside0.mk (blk_below HG2.out hb); replace HB2 := Aside0.mk (HB2.out.trans (hb.mono HB2.out.size)); replace HK2 := Aside0.mk (KeepBut.trans HK2.out (KeepBut.of_below hb gl none) (.inl rfl)); obtain ⟨x0, x1, x2, x3, x4, x5, x6, x7, z0, z1, z2, z3, z4, z5, z6, z7⟩ := cz8 HX2.out; have y0 := czc1 HD2.out; have y1 := czc1 HP2.out; clear hb))
      go_ret
      exact ⟨rfl, HB2.out, HG2.out, HK2.out⟩
    | true =>
      simp only [Bool.not_true, Bool.false_eq_true, if_false] at hbp
      by_cases hz : vk = 0 ∧ vn = 0 ∧ vs = 0 ∧ vt = (⟨#[]⟩ : ByteArray) ∧ vx = 0
      · rw [if_neg (fun q => q.2 hz)] at hbp
        obtain ⟨rfl, rfl, rfl, rfl, rfl⟩ := hz
        obtain ⟨okv, hv, hbp⟩ := Option.bind_eq_some_iff.mp hbp
        cases okv with
        | false =>
          simp only [Bool.not_false, Bool.true_or, Option.some.injEq] at hbp
          subst hbp
          have hA := H.out
          simp only [if_true, Option.some.injEq, Prod.mk.injEq] at hA
          obtain ⟨rfl, rfl⟩ := hA
          go_wp2_with (first | (go_at_call 112; refine (lex_Word.calls k nm _ _ hw).mono ?_; rintro e w5 ⟨rfl, hb⟩; replace HX2 := Aside0.mk (blk_below HX2.out hb); replace HD2 := Aside0.mk (blk_below HD2.out hb); replace HP2 := Aside0.mk (blk_below HP2.out hb); replace HG2 := Aside0.mk (blk_below HG2.out hb); replace HB2 := Aside0.mk (HB2.out.trans (hb.mono HB2.out.size)); replace HK2 := Aside0.mk (KeepBut.trans HK2.out (KeepBut.of_below hb gl none) (.inl rfl)); obtain ⟨x0, x1, x2, x3, x4, x5, x6, x7, z0, z1, z2, z3, z4, z5, z6, z7⟩ := cz8 HX2.out; have y0 := czc1 HD2.out; have y1 := czc1 HP2.out; clear hb) | (go_at_call 38; refine (value_Sound.calls k 0 0 0 (⟨#[]⟩ : ByteArray) 0 _ _ (tabs_of HT.out HB2.out) hv).mono ?_; rintro e w5 ⟨rfl, hb⟩; replace HX2 := Aside0.mk (blk_below HX2.out hb); replace HD2 := Aside0.mk (blk_below HD2.out hb); replace HP2 := Aside0.mk (blk_below HP2.out hb); replace HG2 := Aside0.mk (blk_below HG2.out hb); replace HB2 := Aside0.mk (HB2.out.trans (hb.mono HB2.out.size)); replace HK2 := Aside0.mk (KeepBut.trans HK2.out (KeepBut.of_below hb gl none) (.inl rfl)); obtain ⟨x0, x1, x2, x3, x4, x5, x6, x7, z0, z1, z2, z3, z4, z5, z6, z7⟩ := cz8 HX2.out; have y0 := czc1 HD2.out; have y1 := czc1 HP2.out; clear hb))
          go_ret
          exact ⟨rfl, HB2.out, HG2.out, HK2.out⟩
        | true =>
          simp only [Bool.not_true, Bool.false_or, Option.some.injEq] at hbp
          replace hbp : false = bad := (show decide ((0 : Int) < 0) = false from rfl).symm.trans hbp
          subst hbp
          have hA := H.out
          simp only [Bool.false_eq_true, if_false] at hA
          have hbig : l.length < 4611686018427387904 := by
            split at hA
            · assumption
            · cases hA
          rw [if_pos hbig] at hA
          have hall := hA
          clear hA
          go_wp2_with (first | (go_at_call 112; refine (lex_Word.calls k nm _ _ hw).mono ?_; rintro e w5 ⟨rfl, hb⟩; replace HX2 := Aside0.mk (blk_below HX2.out hb); replace HD2 := Aside0.mk (blk_below HD2.out hb); replace HP2 := Aside0.mk (blk_below HP2.out hb); replace HG2 := Aside0.mk (blk_below HG2.out hb); replace HB2 := Aside0.mk (HB2.out.trans (hb.mono HB2.out.size)); replace HK2 := Aside0.mk (KeepBut.trans HK2.out (KeepBut.of_below hb gl none) (.inl rfl)); obtain ⟨x0, x1, x2, x3, x4, x5, x6, x7, z0, z1, z2, z3, z4, z5, z6, z7⟩ := cz8 HX2.out; have y0 := czc1 HD2.out; have y1 := czc1 HP2.out; clear hb) | (go_at_call 38; refine (value_Sound.calls k 0 0 0 (⟨#[]⟩ : ByteArray) 0 _ _ (tabs_of HT.out HB2.out) hv).mono ?_; rintro e w5 ⟨rfl, hb⟩; replace HX2 := Aside0.mk (blk_below HX2.out hb); replace HD2 := Aside0.mk (blk_below HD2.out hb); replace HP2 := Aside0.mk (blk_below HP2.out hb); replace HG2 := Aside0.mk (blk_below HG2.out hb); replace HB2 := Aside0.mk (HB2.out.trans (hb.mono HB2.out.size)); replace HK2 := Aside0.mk (KeepBut.trans HK2.out (KeepBut.of_below hb gl none) (.inl rfl)); obtain ⟨x0, x1, x2, x3, x4, x5, x6, x7, z0, z1, z2, z3, z4, z5, z6, z7⟩ := cz8 HX2.out; have y0 := czc1 HD2.out; have y1 := czc1 HP2.out; clear hb) | (go_at_call 113; refine (has31 ih l A c d Lv gl gd gp b L w0 _ HC.out HT.out HB2.out HG2.out HE.out HD2.out HP2.out hdg hpg hbig hall).mono ?_; rintro e w6 ⟨rfl, hb, hg, hk⟩))
          go_ret
          exact ⟨rfl, hb, hg, KeepBut.trans HK2.out hk (.inl rfl)⟩
      · rw [if_pos ⟨by decide, hz⟩] at hbp
        obtain rfl := Option.some.inj hbp
        have hA := H.out
        simp only [if_true, Option.some.injEq, Prod.mk.injEq] at hA
        obtain ⟨rfl, rfl⟩ := hA
        have hb5 : (vk == 0 && ((vn == 0 && (vs == 0)) && (vt.toList == ([] : List UInt8) && (vx == 0)))) = false := nz_false hz
        have hb6 : (vk == 0 && ((vn == 0 && (vs == 0)) && (vt.toList.isEmpty && (vx == 0)))) = false := by rw [isEmpty_beq]; exact hb5
        go_wp2_with (first | (go_at_call 112; refine (lex_Word.calls k nm _ _ hw).mono ?_; rintro e w5 ⟨rfl, hb⟩; replace HX2 := Aside0.mk (blk_below HX2.out hb); replace HD2 := Aside0.mk (blk_below HD2.out hb); replace HP2 := Aside0.mk (blk_below HP2.out hb); replace HG2 := Aside0.mk (blk_below HG2.out hb); replace HB2 := Aside0.mk (HB2.out.trans (hb.mono HB2.out.size)); replace HK2 := Aside0.mk (KeepBut.trans HK2.out (KeepBut.of_below hb gl none) (.inl rfl)); obtain ⟨x0, x1, x2, x3, x4, x5, x6, x7, z0, z1, z2, z3, z4, z5, z6, z7⟩ := cz8 HX2.out; have y0 := czc1 HD2.out; have y1 := czc1 HP2.out; clear hb))
        go_ret
        exact ⟨rfl, HB2.out, HG2.out, HK2.out⟩
  ·
    have e3 : (nm.toList != ([] : List UInt8)) = false := by simp only [bne, en]; rfl
    rw [e2, e3] at hbp
    simp only [Bool.bne_false, if_true] at hbp
    obtain rfl := Option.some.inj hbp
    have hA := H.out
    simp only [if_true, Option.some.injEq, Prod.mk.injEq] at hA
    obtain ⟨rfl, rfl⟩ := hA
    rw [en] at hnz
    go_wp2
    go_ret
    exact ⟨rfl, HB2.out, HG2.out, HK2.out⟩
theorem sound_zero : SoundAt 0 := fun x A c d left gl b L w0 w _ _ _ _ _ _ h => by cases h
theorem sound_all : ∀ k, SoundAt k
  | 0 => sound_zero
  | k + 1 => sound_step (sound_all k)
set_option maxHeartbeats 4000000 in
set_option maxRecDepth 100000 in
theorem expr_Sound.calls (k : Nat) (a0_0 a0_1 a0_2 a0_3 : Int) (a0_4 : ByteArray) (a0_5 : Int) (a0_6 : ByteArray) (A0_7 : Option Addr) (c0_7 : Nat) (l0_7 : List S31) (r : Bool) (w : World) (hr0_7 : Kd.C k31 w A0_7 l0_7.length l0_7) (hc0_7 : l0_7.length ≤ c0_7) (hT : Tabs w)
    (h : expr_Sound.f k a0_0 a0_1 a0_2 a0_3 a0_4 a0_5 a0_6 l0_7 = some r) :
    Calls Tryz.prog 35 #[.agg #[.int .i64 a0_0, .int .i64 a0_1, .int .i64 a0_2, .int .i64 a0_3, .string a0_4, .int .i64 a0_5, .string a0_6, .slice A0_7 l0_7.length c0_7]] w fun e w' => e = .returned (.bool r) ∧ Below w.heap.size w w' := by
  obtain ⟨⟨b, L⟩, hs, h⟩ := Option.bind_eq_some_iff.mp h
  obtain rfl := Option.some.inj h
  have hu31 := Tryz.underlying31
  go_enter Tryz.func35, Tryz.ntmps35
  go_wp2_with (first
    | ((with_reducible refine gate_dst (N := 1) rfl ?_); refine bev (cells31 ⟨a0_0, ⟨a0_1, ⟨a0_2, a0_3⟩, a0_4, a0_5⟩, a0_6, l0_7⟩ A0_7 c0_7) 31 ?_; intro gx hgx w1 hbox hb1
       have HX := Aside0.mk hbox; have HB1 := Aside0.mk hb1; clear hgx hbox hb1)
    | ((with_reducible refine gate_dst (N := 3) rfl ?_); refine bev (#[.int .i64 0]) 3 ?_; intro gl hgl w2 hbox hb2
       have HG := Aside0.mk hbox; have hlx := nlt hgl (blk_lt HX.out); have HGE := Aside0.mk (show w.heap.size ≤ gl from by rw [hgl]; exact HB1.out.size); replace HX := Aside0.mk (blk_below HX.out hb2); have HB2 := Aside0.mk (HB1.out.trans (hb2.mono HB1.out.size))
       obtain ⟨q0, q1⟩ := cz1 HG.out; obtain ⟨x0, x1, x2, x3, x4, x5, x6, x7, _⟩ := cz8 HX.out; have hxl := hlx.symm; clear hgl hbox hb2)
    | (go_at_call 68; refine (sound_all k ⟨a0_0, ⟨a0_1, ⟨a0_2, a0_3⟩, a0_4, a0_5⟩, a0_6, l0_7⟩ A0_7 c0_7 1 4096 gl b L w _ hr0_7 hc0_7 hT (HB2.out.setCell (p := ⟨gl, 0, none⟩) HGE.out (.int .i64 4096)) (blk_put (cs := #[.int .i64 0]) (cs' := #[.int .i64 4096]) HG.out 0 (.int .i64 4096) rfl) HGE.out hs).mono ?_; rintro e w3 ⟨rfl, hb, hg, hk⟩))
  go_ret
  exact ⟨rfl, hb⟩
end Go.Proofs.YtgkemhgihbfmmaaGreatDoor.PA
end
section
namespace Go.Proofs.YtgkemhgihbfmmaaGreatDoor.PA
open Go.RowKit Go.Proofs.YtgkemhgihbfmmaaGreatDoorW.PrintWords Go.Proofs.YtgkemhgihbfmmaaGreatDoorW.PrintLast Go.Proofs.YtgkemhgihbfmmaaGreatDoorW.PrintMore
attribute [local go_sem] max2_int min2_int max_two min_two max_three min_three max_four min_four isSome_set str_gtr
set_option linter.unusedVariables false
set_option linter.unusedSimpArgs false
def expr_Parse.j0 : Nat → Bool → List (S136) → Int → Int → Int → Int → Int → Int → Int → Int → Int → ByteArray → Int → ByteArray → List (S31) → Option (Int × Int × Int × Int × ByteArray × Int × ByteArray × (List (S31)) × Int × Int)
 | 0, _, _, _, _, _, _, _, _, _, _, _, _, _, _, _ => none
 | k + 1, x22, x939000, x939001, x939002, x939003, x939004, x939005, x955000, x955001, x955002, x955003, x955004, x955005, x955006, x955007 => if x22 = true then (none) else ((expr_Parser_Error.f x939000 x939001 x939002 x939003 x939004 x939005).bind fun bt961 => (if bt961.2.1 = 0 then ((expr_Sound.f k x955000 x955001 x955002 x955003 x955004 x955005 x955006 x955007).bind fun t968 => (if t968 = true then (some (x955000, x955001, x955002, x955003, x955004, x955005, x955006, x955007, 0, 0)) else (none))) else (none)))
def expr_Parse.f (k : Nat) (a0 : ByteArray) : Option (Int × Int × Int × Int × ByteArray × Int × ByteArray × (List (S31)) × Int × Int) := (expr_NewParser.f k a0).bind fun bt932 => ((expr_Parser_Expr.f k bt932.1 bt932.2.1 bt932.2.2.1 bt932.2.2.2.1 bt932.2.2.2.2.1 bt932.2.2.2.2.2 1).bind fun bt939 => (if bt939.2.2.2.2.2.2.2.2.2.2.2.1 = 0 then ((expr_Parser_Ended.f bt932.1 bt939.2.2.2.2.2.2.2.2.1 bt939.2.2.2.2.2.2.2.2.2.1 bt939.2.2.2.2.2.2.2.2.2.2.1 bt939.2.2.2.2.2.2.2.2.2.2.2.1 bt939.2.2.2.2.2.2.2.2.2.2.2.2).bind fun bt955 => (expr_Parse.j0 k (!bt955.1) bt932.1 bt955.2.1 bt955.2.2.1 bt955.2.2.2.1 bt955.2.2.2.2.1 bt955.2.2.2.2.2 bt939.1 bt939.2.1 bt939.2.2.1 bt939.2.2.2.1 bt939.2.2.2.2.1 bt939.2.2.2.2.2.1 bt939.2.2.2.2.2.2.1 bt939.2.2.2.2.2.2.2.1)) else (expr_Parse.j0 k false bt932.1 bt939.2.2.2.2.2.2.2.2.1 bt939.2.2.2.2.2.2.2.2.2.1 bt939.2.2.2.2.2.2.2.2.2.2.1 bt939.2.2.2.2.2.2.2.2.2.2.2.1 bt939.2.2.2.2.2.2.2.2.2.2.2.2 bt939.1 bt939.2.1 bt939.2.2.1 bt939.2.2.2.1 bt939.2.2.2.2.1 bt939.2.2.2.2.2.1 bt939.2.2.2.2.2.2.1 bt939.2.2.2.2.2.2.2.1)))
theorem expr_Parse.mono_l : ∀ k, (∀ y0 y1 y2 y3 y4 y5 y6 y7 y8 y9 y10 y11 y12 y13 y14, LeO (expr_Parse.j0 k y0 y1 y2 y3 y4 y5 y6 y7 y8 y9 y10 y11 y12 y13 y14) (expr_Parse.j0 (k + 1) y0 y1 y2 y3 y4 y5 y6 y7 y8 y9 y10 y11 y12 y13 y14))
 | 0 => fun _ _ _ _ _ _ _ _ _ _ _ _ _ _ _ r h => by simp [expr_Parse.j0] at h
 | k + 1 => by
  have ih0 := expr_Parse.mono_l k
  ·intro y0 y1 y2 y3 y4 y5 y6 y7 y8 y9 y10 y11 y12 y13 y14
   unfold expr_Parse.j0
   have q0 := @expr_NewParser.mono; have q1 := @expr_Parser_Expr.mono; have q2 := @expr_Sound.mono; exact lmo
theorem expr_Parse.mono : ∀ a0 k, LeO (expr_Parse.f k a0) (expr_Parse.f (k + 1) a0) := by
 intro a0 k
 have ih0 := expr_Parse.mono_l k
 unfold expr_Parse.f
 have q0 := @expr_NewParser.mono; have q1 := @expr_Parser_Expr.mono; have q2 := @expr_Sound.mono; exact lmo
set_option maxHeartbeats 8000000 in
set_option maxRecDepth 100000 in
theorem expr_Parse.calls (k : Nat) (a0 : ByteArray) (r1 r2 r3 r4 : Int) (r5 : ByteArray) (r6 : Int) (r7 : ByteArray) (r8 : List (S31)) (r9 r10 : Int) (wO : World) (hT : Tabs wO) (h : expr_Parse.f k a0 = some (r1, r2, r3, r4, r5, r6, r7, r8, r9, r10)) :
  Calls Tryz.prog 12 #[.string a0] wO fun e w' => ∃ v7_ : Value, e = .returned (.tuple #[.agg #[.int .i64 r1, .int .i64 r2, .int .i64 r3, .int .i64 r4, .string r5, .int .i64 r6, .string r7, v7_], .int .i64 r9, .int .i64 r10]) ∧ Kd.V k31 31 w' wO.heap.size (fun k_ => (wO.heap.size ≤ k_)) v7_ r8 ∧ Below wO.heap.size wO w' := by
 have hu31 := Tryz.underlying31
 have HT := am hT
 clear hT
 have HB := am (Below.refl wO.heap.size wO)
 have H : ((expr_NewParser.f k a0).bind fun bt932 => ((expr_Parser_Expr.f k bt932.1 bt932.2.1 bt932.2.2.1 bt932.2.2.2.1 bt932.2.2.2.2.1 bt932.2.2.2.2.2 1).bind fun bt939 => (if bt939.2.2.2.2.2.2.2.2.2.2.2.1 = 0 then ((expr_Parser_Ended.f bt932.1 bt939.2.2.2.2.2.2.2.2.1 bt939.2.2.2.2.2.2.2.2.2.1 bt939.2.2.2.2.2.2.2.2.2.2.1 bt939.2.2.2.2.2.2.2.2.2.2.2.1 bt939.2.2.2.2.2.2.2.2.2.2.2.2).bind fun bt955 => (expr_Parse.j0 k (!bt955.1) bt932.1 bt955.2.1 bt955.2.2.1 bt955.2.2.2.1 bt955.2.2.2.2.1 bt955.2.2.2.2.2 bt939.1 bt939.2.1 bt939.2.2.1 bt939.2.2.2.1 bt939.2.2.2.2.1 bt939.2.2.2.2.2.1 bt939.2.2.2.2.2.2.1 bt939.2.2.2.2.2.2.2.1)) else (expr_Parse.j0 k false bt932.1 bt939.2.2.2.2.2.2.2.2.1 bt939.2.2.2.2.2.2.2.2.2.1 bt939.2.2.2.2.2.2.2.2.2.2.1 bt939.2.2.2.2.2.2.2.2.2.2.2.1 bt939.2.2.2.2.2.2.2.2.2.2.2.2 bt939.1 bt939.2.1 bt939.2.2.1 bt939.2.2.2.1 bt939.2.2.2.2.1 bt939.2.2.2.2.2.1 bt939.2.2.2.2.2.2.1 bt939.2.2.2.2.2.2.2.1)))) = some (r1, r2, r3, r4, r5, r6, r7, r8, r9, r10) := h
 clear h
 replace H := obe6 H
 obtain ⟨t932, t933, t934, t935, t936, t937, A2, H⟩ := H
 replace H := obe13 H
 obtain ⟨t939, t940, t941, t942, t943, t944, t945, t946, t949, t950, t951, t952, t953, A3, H⟩ := H
 have HC4 := am H
 clear H
 go_enter Tryz.func12, Tryz.ntmps12
 go_upto_region 3 with (first | ((with_reducible refine gate_dst (N := 2) rfl ?_); refine bev (#[.int .i64 0, .int .i64 0, .int .i64 0, .int .i64 0, .string (⟨#[]⟩ : ByteArray), .int .i64 0, .string (⟨#[]⟩ : ByteArray), .slice none 0 0]) 31 ?_; intro gb931 hg w5 hbox hb; have BK931 := am (hbox); have GW931 := am ((by rw [hg]; exact (below_size (bz HB.out)) : wO.heap.size ≤ gb931)); have GE931 := GW931; replace HB := sb HB hb; clear hb hbox hg) | ((with_reducible refine gate_callee (f := 30) rfl ?_); refine gl_ (some 10) Tryz.func30 (by kernel_rfl) #[.string a0] rfl ?_; (with_reducible refine (expr_NewParser.calls k a0 t932 t933 t934 t935 t936 t937 _ ?side2 A2.out).mono ?_); (case side2 => exact tabs_of HT.out (bz HB.out)); rintro e w6 ⟨g938, w, rfl, hi, hb1, hb2⟩; refine ⟨_, rfl, ?_⟩; have HBO := am (below_step (bz HB.out) hb1); replace HB := am hb2; replace HT := am (tabs_of HT.out HBO.out); have HI938 := am hi; have HBT := am (below_then hb1 hb1.size hb2); have NB938_931 := am (IsS63.ne_blk hi (blk_below (bk BK931.out) HBT.out) (by decide)); have NB931_938 := am (Ne.symm NB938_931.out); replace BK931 := am (blk_below (bk BK931.out) HBT.out); clear HBT hb1 hb2 hi) | ((with_reducible refine gate_callee (f := 31) rfl ?_); refine gl_ (some 12) Tryz.func31 (by kernel_rfl) #[.pointer (some ⟨g938, 0, none⟩), .int .i64 1] rfl ?_; (with_reducible refine (expr_Parser_Expr.calls k g938 t932 t933 t934 t935 t936 t937 1 t939 t940 t941 t942 t943 t944 t945 t946 t949 t950 t951 t952 t953 w _ ?side1 ?side2 A3.out).mono ?_); (case side1 => exact hz HI938.out); (case side2 => exact bz HB.out); rintro e w7 ⟨v947, rfl, ho0, hi, hb, hk⟩; refine ⟨_, rfl, ?_⟩; have HO948 := am (Kd.V_lower (Kd.V_mono (ok' := fun k_ => (w.heap.size ≤ k_) ∧ k_ ≠ gb931 ∧ k_ ≠ g938) ho0 (fun k_ hk_ => ⟨(Nat.le_trans (below_size (bz HB.out)) hk_), (Kd.freshB (bk BK931.out) k_ hk_), (IsS63.fresh (hz HI938.out) k_ hk_)⟩)) (below_size (bz HB.out))); replace BK931 := am (KeepBut.blk hk (bk BK931.out) NB931_938.out (by simp)); replace HB := am (hb); replace HI938 := am (hi); clear hb hk hi ho0) | ((with_reducible refine gate_dst (N := 6) rfl ?_); refine bev (#[.int .i64 0, .int .i64 0, .int .i64 0, .int .i64 0, .string (⟨#[]⟩ : ByteArray), .int .i64 0, .string (⟨#[]⟩ : ByteArray), .slice none 0 0]) 31 ?_; intro gb954 hg w8 hbox hb; replace HO948 := am (Kd.V_below (Kd.V_elderB (vv HO948.out) gb954 (Nat.le_of_eq hg.symm)) hb); have BK954 := am (hbox); have GW954 := gs hg HB; have GE954 := GW954; replace HB := sb HB hb; have NB931_954 := na hg BK931; have NB954_931 := nb hg BK931; replace BK931 := kb BK931 hb; have NB938_954 := am ((nlt (a := g938) hg (IsS63.lt (show IsS63 w _ g938 t932 t949 t950 t951 t952 t953 from hz HI938.out)))); have NB954_938 := am ((ngt (a := g938) hg (IsS63.lt (show IsS63 w _ g938 t932 t949 t950 t951 t952 t953 from hz HI938.out)))); replace HI938 := am (IsS63.below (hz HI938.out) hb); clear hb hbox hg; have hnb9 := NB954_931.out; have hnc9 := NB931_954.out; have hnb10 := NB954_938.out; have hnc10 := NB938_954.out; obtain ⟨Z11_0, Z11_1, Z11_2, Z11_3, Z11_4, Z11_5, Z11_6, Z11_7, F11_0, F11_1, F11_2, F11_3, F11_4, F11_5, F11_6, F11_7⟩ := cz8 BK954.out; obtain ⟨Ao12, co12, eo12⟩ := Kd.V_slice HO948.out; subst eo12))
 (try simp only [Act.put, List.setIfInBounds_toArray, List.set_cons_zero, List.set_cons_succ])
 go_cut [22] (fun v22 wc => ∃ (kq : Nat) (x22_3 : Bool) (x939001_3 x939002_3 x939003_3 x939004_3 x939005_3 : Int), v22 = .bool x22_3 ∧ Aside0 (expr_Parse.j0 kq x22_3 t932 x939001_3 x939002_3 x939003_3 x939004_3 x939005_3 t939 t940 t941 t942 t943 t944 t945 t946 = some (r1, r2, r3, r4, r5, r6, r7, r8, r9, r10)) ∧ Aside0 (kq ≤ k) ∧ Aside0 (Kd.V k31 31 wc w.heap.size (fun k_ => (w.heap.size ≤ k_) ∧ k_ ≠ gb931 ∧ k_ ≠ gb954 ∧ k_ ≠ g938) (.slice Ao12 t946.length co12) t946) ∧ Aside0 (wc.heap[gb931]? = some (.cells #[.int .i64 0, .int .i64 0, .int .i64 0, .int .i64 0, .string (⟨#[]⟩ : ByteArray), .int .i64 0, .string (⟨#[]⟩ : ByteArray), (.slice none 0 0)] 31 (0, 0))) ∧ Aside0 (wc.heap[gb954]? = some (.cells #[.int .i64 t939, .int .i64 t940, .int .i64 t941, .int .i64 t942, .string t943, .int .i64 t944, .string t945, (.slice Ao12 t946.length co12)] 31 (0, 0))) ∧ Aside0 (IsS63 w wc g938 t932 x939001_3 x939002_3 x939003_3 x939004_3 x939005_3) ∧ Aside0 (Below w.heap.size w wc))
 case first =>
  have H := HC4.out
  clear HC4
  by_cases c13 : t952 = 0
  ·replace H := ipe c13 H
   obtain ⟨H, c13b0, c13b1⟩ := H
   clear c13
   (first | rw [c13b0] | (simp only [i64_w, i32_w]; rw [c13b0]) | skip)
   replace H := obe6 H
   obtain ⟨t955, t956, t957, t958, t959, t960, A14, H⟩ := H
   have H' := am H
   clear H
   obtain ⟨ASz15_0, cSz15_0, HSz15_0, Z15_0, Z15_1, Z15_2, Z15_3, Z15_4, Z15_5, F15_1, F15_2, F15_3, F15_4, F15_5⟩ := open63 HI938.out
   go_wp2_with (first | (go_at_call 32; (with_reducible refine (expr_Parser_Ended.calls g938 t932 t949 t950 t951 t952 t953 t955 t956 t957 t958 t959 t960 w _ ?side1 ?side2 A14.out).mono ?_); (case side1 => exact hz HI938.out); (case side2 => exact bz HB.out); rintro e w16 ⟨rfl, hi, hb, hk⟩; replace BK931 := am (KeepBut.blk hk (g' := gb931) (o := .cells #[.int .i64 0, .int .i64 0, .int .i64 0, .int .i64 0, .string (⟨#[]⟩ : ByteArray), .int .i64 0, .string (⟨#[]⟩ : ByteArray), .slice none 0 0] 31 (0, 0)) (bp BK931.out) NB931_938.out (by simp)); replace HO948 := am (Kd.V_mono (Kd.V_keep (Kd.V_mono (ok := fun k_ => ((((w.heap.size ≤ k_)) ∧ (k_ ≠ gb931 ∧ k_ ≠ g938)) ∧ k_ ≠ gb954)) (by (with_reducible repeat (first | apply Kd.V_alloc | apply Kd.V_drewN | apply Kd.V_drew)); exact (Kd.V_mono (Kd.V_far (p := ⟨gb954, 7, none⟩) (Kd.V_far (p := ⟨gb954, 6, none⟩) (Kd.V_far (p := ⟨gb954, 5, none⟩) (Kd.V_far (p := ⟨gb954, 4, none⟩) (Kd.V_far (p := ⟨gb954, 3, none⟩) (Kd.V_far (p := ⟨gb954, 2, none⟩) (Kd.V_far (p := ⟨gb954, 1, none⟩) (Kd.V_far (p := ⟨gb954, 0, none⟩) (Kd.V_mono HO948.out (fun k_ hk => (⟨hk, hk.2⟩ : _ ∧ k_ ≠ gb954))) (fun _ hk => hk.2) (.int .i64 t939)) (fun _ hk => hk.2) (.int .i64 t940)) (fun _ hk => hk.2) (.int .i64 t941)) (fun _ hk => hk.2) (.int .i64 t942)) (fun _ hk => hk.2) (.string t943)) (fun _ hk => hk.2) (.int .i64 t944)) (fun _ hk => hk.2) (.string t945)) (fun _ hk => hk.2) (.slice Ao12 t946.length co12)) (fun _ h_ => h_.1))) (fun k_ hk_ => (⟨hk_, hk_.1.2.2⟩ : _ ∧ k_ ≠ g938))) hk (fun _ h => h.2)) (fun _ h => h.1)); replace BK954 := am (KeepBut.blk hk (g' := gb954) (o := .cells #[.int .i64 t939, .int .i64 t940, .int .i64 t941, .int .i64 t942, .string t943, .int .i64 t944, .string t945, .slice Ao12 t946.length co12] 31 (0, 0)) (bp BK954.out) NB954_938.out (by simp)); replace HB := am (hb); replace HI938 := am (hi); clear hb hk hi))
   go_meet
   case rel => exact ⟨_, (!t955), (t956), (t957), (t958), (t959), (t960), sz, H', ⟨oz⟩, ⟨by (with_reducible repeat (first | apply Kd.V_alloc | apply Kd.V_drewN | apply Kd.V_drew)); exact Kd.V_mono HO948.out (fun _ hk => ⟨hk.1.1, ⟨hk.1.2.1, ⟨hk.2, hk.1.2.2⟩⟩⟩)⟩, ⟨bk BK931.out⟩, ⟨bk BK954.out⟩, ⟨hz HI938.out⟩, ⟨bz HB.out⟩⟩
  replace H := ine c13 H
  obtain ⟨H, c13b0, c13b1⟩ := H
  (first | rw [c13b0] | (simp only [i64_w, i32_w]; rw [c13b0]) | skip)
  have H' := am H
  clear H
  obtain ⟨ASz17_0, cSz17_0, HSz17_0, Z17_0, Z17_1, Z17_2, Z17_3, Z17_4, Z17_5, F17_1, F17_2, F17_3, F17_4, F17_5⟩ := open63 HI938.out
  go_wp2
  go_meet
  case rel => exact ⟨_, (false), (t949), (t950), (t951), (t952), (t953), sz, H', ⟨oz⟩, ⟨vfV HO948.out⟩, ⟨bp BK931.out⟩, ⟨bp BK954.out⟩, ⟨hz HI938.out⟩, ⟨bz HB.out⟩⟩
 case rest =>
  clear HC4
  try clear Z11_0; try clear Z11_1; try clear Z11_2; try clear Z11_3; try clear Z11_4; try clear Z11_5; try clear Z11_6; try clear Z11_7; try clear F11_0; try clear F11_1; try clear F11_2; try clear F11_3; try clear F11_4; try clear F11_5; try clear F11_6; try clear F11_7
  obtain ⟨kq, x22_3, x939001_3, x939002_3, x939003_3, x939004_3, x939005_3, rfl, HA, HJ3, HO_955007, BK931, BK954, HI938, HB⟩ := hcut
  cases kq with
  | zero => exact absurd HA.out (by simp [expr_Parse.j0])
  | succ kj3 =>
   have H := HA.out
   clear HA
   simp only [expr_Parse.j0] at H
   by_cases c18 : x22_3 = true
   ·subst c18
    (try simp only [Bool.not_true, Bool.not_false])
    replace H := ift H
    exact absurd H (by simp)
   replace c18 := Bool.eq_false_iff.mpr c18
   subst c18
   (try simp only [Bool.not_true, Bool.not_false])
   replace H := iff_ H
   replace H := obe7 H
   obtain ⟨t961, t962, t963, t964, t965, t966, t967, A19, H⟩ := H
   by_cases c20 : t962 = 0
   ·replace H := ipe c20 H
    obtain ⟨H, c20b0, c20b1⟩ := H
    clear c20
    replace H := obe H
    obtain ⟨t968, A21, H⟩ := H
    by_cases c22 : t968 = true
    ·subst c22
     (try simp only [Bool.not_true, Bool.not_false])
     replace H := ift H
     simp only [Option.some.injEq, Prod.mk.injEq] at H
     obtain ⟨rfl, rfl, rfl, rfl, rfl, rfl, rfl, rfl, rfl, rfl⟩ := H
     go_wp2_with (first | ((with_reducible refine gate_callee (f := 34) rfl ?_); refine gl_ (some 27) Tryz.func34 (by kernel_rfl) #[.pointer (some ⟨g938, 0, none⟩)] rfl ?_; (with_reducible refine (expr_Parser_Error.calls g938 t932 x939001_3 x939002_3 x939003_3 x939004_3 x939005_3 t961 t962 t963 t964 t965 t966 t967 w _ ?side1 ?side2 A19.out).mono ?_); (case side1 => exact hz HI938.out); (case side2 => exact bz HB.out); rintro e w23 ⟨rfl, hi, hb, hk⟩; refine ⟨_, rfl, ?_⟩; replace HO_955007 := am (Kd.V_mono (Kd.V_keep (Kd.V_mono (ok := fun k_ => (((w.heap.size ≤ k_)) ∧ (k_ ≠ gb931 ∧ (k_ ≠ gb954 ∧ k_ ≠ g938)))) (vv HO_955007.out) (fun k_ hk_ => (⟨hk_, hk_.2.2.2⟩ : _ ∧ k_ ≠ g938))) hk (fun _ h => h.2)) (fun _ h => h.1)); replace BK931 := am (KeepBut.blk hk (bk BK931.out) NB931_938.out (by simp)); replace BK954 := am (KeepBut.blk hk (bk BK954.out) NB954_938.out (by simp)); replace HB := am (hb); replace HI938 := am (hi); clear hb hk hi; have hnb24 := NB954_931.out; have hnc24 := NB931_954.out; have hnb25 := NB954_938.out; have hnc25 := NB938_954.out; obtain ⟨Z26_0, Z26_1, Z26_2, Z26_3, Z26_4, Z26_5, Z26_6, Z26_7, F26_0, F26_1, F26_2, F26_3, F26_4, F26_5, F26_6, F26_7⟩ := cz8 BK954.out) | ((with_reducible refine gate_callee (f := 35) rfl ?_); refine gl_ (some 36) Tryz.func35 (by kernel_rfl) #[.agg #[.int .i64 t939, .int .i64 t940, .int .i64 t941, .int .i64 t942, .string t943, .int .i64 t944, .string t945, .slice Ao12 t946.length co12]] rfl ?_; (with_reducible refine (expr_Sound.calls kj3 t939 t940 t941 t942 t943 t944 t945 _ _ t946 true _ ?side1 ?side2 ?side3 A21.out).mono ?_); (case side1 => repeat (first | exact (Kd.V_reads' HO_955007.out).2.2 | (with_reducible refine Kd.C_alloc ?_ _) | (with_reducible refine Kd.C_drewN ?_ _) | (with_reducible refine Kd.C_drew ?_))); (case side2 => exact (Kd.V_reads' HO_955007.out).2.1); (case side3 => exact tabs_of HT.out (bz HB.out)); rintro e w27 ⟨rfl, hb⟩; refine ⟨_, rfl, ?_⟩; replace HO_955007 := am (Kd.V_below (vv HO_955007.out) hb); replace BK931 := kb BK931 hb; replace BK954 := kb BK954 hb; replace HB := sb HB hb; replace HI938 := am (IsS63.below (hz HI938.out) hb); clear hb; obtain ⟨Z28_0, Z28_1, Z28_2, Z28_3, Z28_4, Z28_5, Z28_6, Z28_7, F28_0, F28_1, F28_2, F28_3, F28_4, F28_5, F28_6, F28_7⟩ := cz8 BK954.out; have hnb29 := NB931_938.out; have hnc29 := NB938_931.out; obtain ⟨Z30_0, Z30_1, Z30_2, Z30_3, Z30_4, Z30_5, Z30_6, Z30_7, F30_0, F30_1, F30_2, F30_3, F30_4, F30_5, F30_6, F30_7⟩ := cz8 BK931.out))
     refine bodyPost_ret (results_ctt rfl _ _ gb931 31 #[.int .i64 t939, .int .i64 t940, .int .i64 t941, .int .i64 t942, .string t943, .int .i64 t944, .string t945, .slice Ao12 t946.length co12] (0, 0) _ rfl (bp BK931.out) Tryz.underlying31 rfl (by kernel_rfl)) rfl ?_
     exact ⟨_, az, by (with_reducible repeat (first | apply Kd.V_alloc | apply Kd.V_drewN | apply Kd.V_drew)); exact Kd.V_mono (Kd.V_far (p := ⟨gb931, 7, none⟩) (Kd.V_far (p := ⟨gb931, 6, none⟩) (Kd.V_far (p := ⟨gb931, 5, none⟩) (Kd.V_far (p := ⟨gb931, 4, none⟩) (Kd.V_far (p := ⟨gb931, 3, none⟩) (Kd.V_far (p := ⟨gb931, 2, none⟩) (Kd.V_far (p := ⟨gb931, 1, none⟩) (Kd.V_far (p := ⟨gb931, 0, none⟩) (Kd.V_mono HO_955007.out (fun k_ hk => (⟨hk, hk.2.1⟩ : _ ∧ k_ ≠ gb931))) (fun _ hk => hk.2) (.int .i64 t939)) (fun _ hk => hk.2) (.int .i64 t940)) (fun _ hk => hk.2) (.int .i64 t941)) (fun _ hk => hk.2) (.int .i64 t942)) (fun _ hk => hk.2) (.string t943)) (fun _ hk => hk.2) (.int .i64 t944)) (fun _ hk => hk.2) (.string t945)) (fun _ hk => hk.2) (.slice Ao12 t946.length co12)) (fun _ hk => Nat.le_trans HBO.out.size hk.1.1), bz (below_then HBO.out HBO.out.size HB.out)⟩
    replace c22 := Bool.eq_false_iff.mpr c22
    subst c22
    (try simp only [Bool.not_true, Bool.not_false])
    replace H := iff_ H
    exact absurd H (by simp)
   rw [if_neg c20] at H
   exact absurd H (by simp)
end Go.Proofs.YtgkemhgihbfmmaaGreatDoor.PA
end
section
namespace Go.Proofs.YtgkemhgihbfmmaaGreatDoor.PA
open Go.RowKit Go.Proofs.YtgkemhgihbfmmaaGreatDoorW.PrintWords Go.Proofs.YtgkemhgihbfmmaaGreatDoorW.PrintLast Go.Proofs.YtgkemhgihbfmmaaGreatDoorW.PrintMore
attribute [local go_sem] max2_int min2_int max_two min_two max_three min_three max_four min_four isSome_set str_gtr
set_option linter.unusedVariables false
set_option linter.unusedSimpArgs false
attribute [local go_sem high] eqA25
mutual
def calc_Equal.j0 : Nat → Bool → Int → Int → Int → ByteArray → Int → Int → Int → Int → ByteArray → Int → Option (Int × Int × Int × ByteArray × Int)
 | 0, _, _, _, _, _, _, _, _, _, _, _ => none
 | k + 1, x5, x970000, x970001, x970002, x970003, x970004, x971000, x971001, x971002, x971003, x971004 => if x5 = true then (some (0, 0, 0, (⟨#[]⟩ : ByteArray), 0)) else (if x970000 = 0 then (calc_Equal.j1 k true x970000 x970001 x970002 x970003 x970004 x971000 x971001 x971002 x971003 x971004) else (calc_Equal.j1 k (x971000 == 0) x970000 x970001 x970002 x970003 x970004 x971000 x971001 x971002 x971003 x971004))
def calc_Equal.j1 : Nat → Bool → Int → Int → Int → ByteArray → Int → Int → Int → Int → ByteArray → Int → Option (Int × Int × Int × ByteArray × Int)
 | 0, _, _, _, _, _, _, _, _, _, _, _ => none
 | k + 1, x15, x970000, x970001, x970002, x970003, x970004, x971000, x971001, x971002, x971003, x971004 => if x15 = true then (calc_Equal.j2 k x15 x970000 x970001 x970002 x970003 x970004 x971000 x971001 x971002 x971003 x971004) else (calc_Equal.j2 k (x970000 == x971000) x970000 x970001 x970002 x970003 x970004 x971000 x971001 x971002 x971003 x971004)
def calc_Equal.j2 : Nat → Bool → Int → Int → Int → ByteArray → Int → Int → Int → Int → ByteArray → Int → Option (Int × Int × Int × ByteArray × Int)
 | 0, _, _, _, _, _, _, _, _, _, _, _ => none
 | k + 1, x15, x970000, x970001, x970002, x970003, x970004, x971000, x971001, x971002, x971003, x971004 => if x15 = true then ((logic_Truth.f (x970000 == x971000 && ((x970001 == x971001 && (x970002 == x971002)) && (x970003.toList == x971003.toList && (x970004 == x971004))))).bind fun bt974 => (some (bt974.1, bt974.2.1, bt974.2.2.1, bt974.2.2.2.1, bt974.2.2.2.2))) else (some (0, 0, 0, (⟨#[]⟩ : ByteArray), 0))
end
def calc_Equal.f (k : Nat) (a0_0 a0_1 a0_2 : Int) (a0_3 : ByteArray) (a0_4 a1_0 a1_1 a1_2 : Int) (a1_3 : ByteArray) (a1_4 : Int) : Option (Int × Int × Int × ByteArray × Int) := (value_Sound.f k a0_0 a0_1 a0_2 a0_3 a0_4).bind fun t972 => (if t972 = true then ((value_Sound.f k a1_0 a1_1 a1_2 a1_3 a1_4).bind fun t973 => (calc_Equal.j0 k (!t973) a0_0 a0_1 a0_2 a0_3 a0_4 a1_0 a1_1 a1_2 a1_3 a1_4)) else (calc_Equal.j0 k true a0_0 a0_1 a0_2 a0_3 a0_4 a1_0 a1_1 a1_2 a1_3 a1_4))
theorem calc_Equal.mono_l : ∀ k, (∀ y0 y1 y2 y3 y4 y5 y6 y7 y8 y9 y10, LeO (calc_Equal.j0 k y0 y1 y2 y3 y4 y5 y6 y7 y8 y9 y10) (calc_Equal.j0 (k + 1) y0 y1 y2 y3 y4 y5 y6 y7 y8 y9 y10)) ∧ (∀ y0 y1 y2 y3 y4 y5 y6 y7 y8 y9 y10, LeO (calc_Equal.j1 k y0 y1 y2 y3 y4 y5 y6 y7 y8 y9 y10) (calc_Equal.j1 (k + 1) y0 y1 y2 y3 y4 y5 y6 y7 y8 y9 y10)) ∧ (∀ y0 y1 y2 y3 y4 y5 y6 y7 y8 y9 y10, LeO (calc_Equal.j2 k y0 y1 y2 y3 y4 y5 y6 y7 y8 y9 y10) (calc_Equal.j2 (k + 1) y0 y1 y2 y3 y4 y5 y6 y7 y8 y9 y10))
 | 0 => ⟨fun _ _ _ _ _ _ _ _ _ _ _ r h => by simp [calc_Equal.j0] at h, fun _ _ _ _ _ _ _ _ _ _ _ r h => by simp [calc_Equal.j1] at h, fun _ _ _ _ _ _ _ _ _ _ _ r h => by simp [calc_Equal.j2] at h⟩
 | k + 1 => by
  obtain ⟨ih0, ih1, ih2⟩ := calc_Equal.mono_l k
  refine ⟨?_, ?_, ?_⟩
  ·intro y0 y1 y2 y3 y4 y5 y6 y7 y8 y9 y10
   unfold calc_Equal.j0
   have q0 := @value_Sound.mono; exact lmo
  ·intro y0 y1 y2 y3 y4 y5 y6 y7 y8 y9 y10
   unfold calc_Equal.j1
   have q0 := @value_Sound.mono; exact lmo
  intro y0 y1 y2 y3 y4 y5 y6 y7 y8 y9 y10
  unfold calc_Equal.j2
  have q0 := @value_Sound.mono; exact lmo
theorem calc_Equal.mono : ∀ a0 a1 a2 a3 a4 a5 a6 a7 a8 a9 k, LeO (calc_Equal.f k a0 a1 a2 a3 a4 a5 a6 a7 a8 a9) (calc_Equal.f (k + 1) a0 a1 a2 a3 a4 a5 a6 a7 a8 a9) := by
 intro a0 a1 a2 a3 a4 a5 a6 a7 a8 a9 k
 obtain ⟨ih0, ih1, ih2⟩ := calc_Equal.mono_l k
 unfold calc_Equal.f
 have q0 := @value_Sound.mono; exact lmo
set_option maxHeartbeats 8000000 in
set_option maxRecDepth 100000 in
theorem calc_Equal.calls (k : Nat) (a0_0 a0_1 a0_2 : Int) (a0_3 : ByteArray) (a0_4 a1_0 a1_1 a1_2 : Int) (a1_3 : ByteArray) (a1_4 r1 r2 r3 : Int) (r4 : ByteArray) (r5 : Int) (w : World) (hT : Tabs w) (h : calc_Equal.f k a0_0 a0_1 a0_2 a0_3 a0_4 a1_0 a1_1 a1_2 a1_3 a1_4 = some (r1, r2, r3, r4, r5)) :
  Calls Tryz.prog 26 #[.agg #[.int .i64 a0_0, .int .i64 a0_1, .int .i64 a0_2, .string a0_3, .int .i64 a0_4], .agg #[.int .i64 a1_0, .int .i64 a1_1, .int .i64 a1_2, .string a1_3, .int .i64 a1_4]] w fun e w' => e = .returned (.agg #[.int .i64 r1, .int .i64 r2, .int .i64 r3, .string r4, .int .i64 r5]) ∧ Below w.heap.size w w' := by
 have hu25 := Tryz.underlying25
 have HT := am hT; have HZ := am hT.null.pos; obtain ⟨hn0_, hn1_, hn2_, hn3_, hn4_⟩ := hT.null
 clear hT
 have HB := am (Below.refl w.heap.size w)
 have H : ((value_Sound.f k a0_0 a0_1 a0_2 a0_3 a0_4).bind fun t972 => (if t972 = true then ((value_Sound.f k a1_0 a1_1 a1_2 a1_3 a1_4).bind fun t973 => (calc_Equal.j0 k (!t973) a0_0 a0_1 a0_2 a0_3 a0_4 a1_0 a1_1 a1_2 a1_3 a1_4)) else (calc_Equal.j0 k true a0_0 a0_1 a0_2 a0_3 a0_4 a1_0 a1_1 a1_2 a1_3 a1_4))) = some (r1, r2, r3, r4, r5) := h
 clear h
 have HC3 := am H
 clear H
 go_enter Tryz.func26, Tryz.ntmps26
 go_upto_region 1 with (first | ((with_reducible refine gate_dst (N := 2) rfl ?_); refine bev (#[.int .i64 a0_0, .int .i64 a0_1, .int .i64 a0_2, .string a0_3, .int .i64 a0_4]) 25 ?_; intro gb969 hg w4 hbox hb; have BK969 := am (hbox); have GW969 := gs hg HB; have hz969 := ne0 HZ.out GW969.out; have GE969 := GW969; replace HB := sb HB hb; obtain ⟨_, _, _, _, _⟩ := nz HT HB; clear hb hbox hg) | ((with_reducible refine gate_dst (N := 3) rfl ?_); refine bev (#[.int .i64 a1_0, .int .i64 a1_1, .int .i64 a1_2, .string a1_3, .int .i64 a1_4]) 25 ?_; intro gb970 hg w5 hbox hb; have BK970 := am (hbox); have GW970 := gs hg HB; have hz970 := ne0 HZ.out GW970.out; have GE970 := GW970; replace HB := sb HB hb; obtain ⟨_, _, _, _, _⟩ := nz HT HB; have NB969_970 := na hg BK969; have NB970_969 := nb hg BK969; replace BK969 := kb BK969 hb; clear hb hbox hg) | ((with_reducible refine gate_dst (N := 4) rfl ?_); refine bev (#[.int .i64 0, .int .i64 0, .int .i64 0, .string (⟨#[]⟩ : ByteArray), .int .i64 0]) 25 ?_; intro gb971 hg w6 hbox hb; have BK971 := am (hbox); have GW971 := gs hg HB; have hz971 := ne0 HZ.out GW971.out; have GE971 := GW971; replace HB := sb HB hb; obtain ⟨_, _, _, _, _⟩ := nz HT HB; have NB969_971 := na hg BK969; have NB971_969 := nb hg BK969; replace BK969 := kb BK969 hb; have NB970_971 := na hg BK970; have NB971_970 := nb hg BK970; replace BK970 := kb BK970 hb; clear hb hbox hg))
 (try simp only [Act.put, List.setIfInBounds_toArray, List.set_cons_zero, List.set_cons_succ])
 go_cut [5] (fun v5 wc => ∃ (kq : Nat) (x5_2 : Bool), v5 = .bool x5_2 ∧ Aside0 (calc_Equal.j0 kq x5_2 a0_0 a0_1 a0_2 a0_3 a0_4 a1_0 a1_1 a1_2 a1_3 a1_4 = some (r1, r2, r3, r4, r5)) ∧ Aside0 (kq ≤ k) ∧ Aside0 (wc.heap[gb969]? = some (.cells #[.int .i64 a0_0, .int .i64 a0_1, .int .i64 a0_2, .string a0_3, .int .i64 a0_4] 25 (0, 0))) ∧ Aside0 (wc.heap[gb970]? = some (.cells #[.int .i64 a1_0, .int .i64 a1_1, .int .i64 a1_2, .string a1_3, .int .i64 a1_4] 25 (0, 0))) ∧ Aside0 (wc.heap[gb971]? = some (.cells #[.int .i64 0, .int .i64 0, .int .i64 0, .string (⟨#[]⟩ : ByteArray), .int .i64 0] 25 (0, 0))) ∧ Aside0 (Below w.heap.size w wc))
 case first =>
  have H := HC3.out
  clear HC3
  replace H := obe H
  obtain ⟨t972, A7, H⟩ := H
  by_cases c8 : t972 = true
  ·subst c8
   (try simp only [Bool.not_true, Bool.not_false])
   replace H := ift H
   replace H := obe H
   obtain ⟨t973, A9, H⟩ := H
   have H' := am H
   clear H
   have hnb10 := NB969_970.out
   have hnc10 := NB970_969.out
   have hnb11 := NB969_971.out
   have hnc11 := NB971_969.out
   obtain ⟨Z12_0, Z12_1, Z12_2, Z12_3, Z12_4, F12_0, F12_1, F12_2, F12_3, F12_4⟩ := cz5 BK969.out
   go_wp2_with (first | ((with_reducible refine gate_callee (f := 38) rfl ?_); refine gl_ (some 7) Tryz.func38 (by kernel_rfl) #[.agg #[.int .i64 a0_0, .int .i64 a0_1, .int .i64 a0_2, .string a0_3, .int .i64 a0_4]] rfl ?_; (with_reducible refine (value_Sound.calls k a0_0 a0_1 a0_2 a0_3 a0_4 true _ ?side1 A7.out).mono ?_); (case side1 => exact tabs_of HT.out (bz HB.out)); rintro e w13 ⟨rfl, hb⟩; refine ⟨_, rfl, ?_⟩; replace BK969 := kb BK969 hb; replace BK970 := kb BK970 hb; replace BK971 := kb BK971 hb; replace HB := sb HB hb; obtain ⟨_, _, _, _, _⟩ := nz HT HB; clear hb; have hnb14 := NB970_971.out; have hnc14 := NB971_970.out; obtain ⟨Z15_0, Z15_1, Z15_2, Z15_3, Z15_4, F15_0, F15_1, F15_2, F15_3, F15_4⟩ := cz5 BK970.out) | (go_at_call 38; (with_reducible refine (value_Sound.calls k a1_0 a1_1 a1_2 a1_3 a1_4 t973 _ ?side1 A9.out).mono ?_); (case side1 => exact tabs_of HT.out (bz HB.out)); rintro e w16 ⟨rfl, hb⟩; replace BK969 := kb BK969 hb; replace BK970 := kb BK970 hb; replace BK971 := kb BK971 hb; replace HB := sb HB hb; obtain ⟨_, _, _, _, _⟩ := nz HT HB; clear hb))
   go_meet
   case rel => exact ⟨_, (!t973), sz, H', ⟨oz⟩, ⟨bk BK969.out⟩, ⟨bk BK970.out⟩, ⟨bk BK971.out⟩, ⟨bz HB.out⟩⟩
  replace c8 := Bool.eq_false_iff.mpr c8
  subst c8
  (try simp only [Bool.not_true, Bool.not_false])
  replace H := iff_ H
  have H' := am H
  clear H
  have hnb17 := NB969_970.out
  have hnc17 := NB970_969.out
  have hnb18 := NB969_971.out
  have hnc18 := NB971_969.out
  obtain ⟨Z19_0, Z19_1, Z19_2, Z19_3, Z19_4, F19_0, F19_1, F19_2, F19_3, F19_4⟩ := cz5 BK969.out
  go_wp2_with (first | ((with_reducible refine gate_callee (f := 38) rfl ?_); refine gl_ (some 7) Tryz.func38 (by kernel_rfl) #[.agg #[.int .i64 a0_0, .int .i64 a0_1, .int .i64 a0_2, .string a0_3, .int .i64 a0_4]] rfl ?_; (with_reducible refine (value_Sound.calls k a0_0 a0_1 a0_2 a0_3 a0_4 false _ ?side1 A7.out).mono ?_); (case side1 => exact tabs_of HT.out (bz HB.out)); rintro e w20 ⟨rfl, hb⟩; refine ⟨_, rfl, ?_⟩; replace BK969 := kb BK969 hb; replace BK970 := kb BK970 hb; replace BK971 := kb BK971 hb; replace HB := sb HB hb; obtain ⟨_, _, _, _, _⟩ := nz HT HB; clear hb))
  go_meet
  case rel => exact ⟨_, (true), sz, H', ⟨oz⟩, ⟨bk BK969.out⟩, ⟨bk BK970.out⟩, ⟨bk BK971.out⟩, ⟨bz HB.out⟩⟩
 case rest =>
  clear HC3
  skip
  obtain ⟨kq, x5_2, rfl, HA, HJ2, BK969, BK970, BK971, HB⟩ := hcut; obtain ⟨_, _, _, _, _⟩ := nz HT HB
  cases kq with
  | zero => exact absurd HA.out (by simp [calc_Equal.j0])
  | succ kj2 =>
   have H := HA.out
   clear HA
   simp only [calc_Equal.j0] at H
   by_cases c21 : x5_2 = true
   ·subst c21
    (try simp only [Bool.not_true, Bool.not_false])
    replace H := ift H
    simp only [Option.some.injEq, Prod.mk.injEq] at H
    obtain ⟨rfl, rfl, rfl, rfl, rfl⟩ := H
    have hnb22 := NB971_969.out
    have hnc22 := NB969_971.out
    have hnb23 := NB971_970.out
    have hnc23 := NB970_971.out
    obtain ⟨Z24_0, Z24_1, Z24_2, Z24_3, Z24_4, F24_0, F24_1, F24_2, F24_3, F24_4⟩ := cz5 BK971.out
    go_wp2
    refine bodyPost_ret (results_cell_row rfl _ _ gb971 25 #[.int .i64 0, .int .i64 0, .int .i64 0, .string (⟨#[]⟩ : ByteArray), .int .i64 0] (0, 0) _ rfl (bp BK971.out) Tryz.underlying25 rfl (by kernel_rfl)) rfl ?_
    exact ⟨az, bz HB.out⟩
   replace c21 := Bool.eq_false_iff.mpr c21
   subst c21
   (try simp only [Bool.not_true, Bool.not_false])
   replace H := iff_ H
   have HC25 := am H
   clear H
   go_upto_region 3 with (fail)
   go_cut [15] (fun v15 wc => ∃ (kq : Nat) (x15_24 : Bool), v15 = .bool x15_24 ∧ Aside0 (calc_Equal.j1 kq x15_24 a0_0 a0_1 a0_2 a0_3 a0_4 a1_0 a1_1 a1_2 a1_3 a1_4 = some (r1, r2, r3, r4, r5)) ∧ Aside0 (kq ≤ kj2) ∧ Aside0 (wc.heap[gb969]? = some (.cells #[.int .i64 a0_0, .int .i64 a0_1, .int .i64 a0_2, .string a0_3, .int .i64 a0_4] 25 (0, 0))) ∧ Aside0 (wc.heap[gb970]? = some (.cells #[.int .i64 a1_0, .int .i64 a1_1, .int .i64 a1_2, .string a1_3, .int .i64 a1_4] 25 (0, 0))) ∧ Aside0 (wc.heap[gb971]? = some (.cells #[.int .i64 0, .int .i64 0, .int .i64 0, .string (⟨#[]⟩ : ByteArray), .int .i64 0] 25 (0, 0))) ∧ Aside0 (Below w.heap.size w wc))
   case first =>
    have H := HC25.out
    clear HC25
    by_cases c26 : a0_0 = 0
    ·replace H := ipe c26 H
     obtain ⟨H, c26b0, c26b1⟩ := H
     clear c26
     (first | rw [c26b0] | (simp only [i64_w, i32_w]; rw [c26b0]) | skip)
     have H' := am H
     clear H
     have hnb27 := NB969_970.out
     have hnc27 := NB970_969.out
     have hnb28 := NB969_971.out
     have hnc28 := NB971_969.out
     obtain ⟨Z29_0, Z29_1, Z29_2, Z29_3, Z29_4, F29_0, F29_1, F29_2, F29_3, F29_4⟩ := cz5 BK969.out
     go_wp2
     go_meet
     case rel => exact ⟨_, (true), sz, H', ⟨oa HJ2⟩, ⟨bk BK969.out⟩, ⟨bk BK970.out⟩, ⟨bk BK971.out⟩, ⟨bz HB.out⟩⟩
    replace H := ine c26 H
    obtain ⟨H, c26b0, c26b1⟩ := H
    (first | rw [c26b0] | (simp only [i64_w, i32_w]; rw [c26b0]) | skip)
    have H' := am H
    clear H
    have hnb30 := NB969_970.out
    have hnc30 := NB970_969.out
    have hnb31 := NB969_971.out
    have hnc31 := NB971_969.out
    obtain ⟨Z32_0, Z32_1, Z32_2, Z32_3, Z32_4, F32_0, F32_1, F32_2, F32_3, F32_4⟩ := cz5 BK969.out
    have hnb33 := NB970_971.out
    have hnc33 := NB971_970.out
    obtain ⟨Z34_0, Z34_1, Z34_2, Z34_3, Z34_4, F34_0, F34_1, F34_2, F34_3, F34_4⟩ := cz5 BK970.out
    go_wp2
    go_meet
    case rel => exact ⟨_, ((a1_0 == 0)), sz, H', ⟨oa HJ2⟩, ⟨bk BK969.out⟩, ⟨bk BK970.out⟩, ⟨bk BK971.out⟩, ⟨bz HB.out⟩⟩
   case rest =>
    clear HC25
    try clear c8; try clear c21; try clear Z12_0; try clear Z12_1; try clear Z12_2; try clear Z12_3; try clear Z12_4; try clear Z15_0; try clear Z15_1; try clear Z15_2; try clear Z15_3; try clear Z15_4; try clear Z19_0; try clear Z19_1; try clear Z19_2; try clear Z19_3; try clear Z19_4; try clear Z24_0; try clear Z24_1; try clear Z24_2; try clear Z24_3; try clear Z24_4; try clear F12_0; try clear F12_1; try clear F12_2; try clear F12_3; try clear F12_4; try clear F15_0; try clear F15_1; try clear F15_2; try clear F15_3; try clear F15_4; try clear F19_0; try clear F19_1; try clear F19_2; try clear F19_3; try clear F19_4; try clear F24_0; try clear F24_1; try clear F24_2; try clear F24_3; try clear F24_4
    obtain ⟨kq, x15_24, rfl, HA, HJ24, BK969, BK970, BK971, HB⟩ := hcut; obtain ⟨_, _, _, _, _⟩ := nz HT HB
    cases kq with
    | zero => exact absurd HA.out (by simp [calc_Equal.j1])
    | succ kj24 =>
     have H := HA.out
     clear HA
     simp only [calc_Equal.j1] at H
     have HC35 := am H
     clear H
     go_upto_if 15 with (fail)
     go_cut [15] (fun v15 wc => ∃ (kq : Nat) (x15_34 : Bool), v15 = .bool x15_34 ∧ Aside0 (calc_Equal.j2 kq x15_34 a0_0 a0_1 a0_2 a0_3 a0_4 a1_0 a1_1 a1_2 a1_3 a1_4 = some (r1, r2, r3, r4, r5)) ∧ Aside0 (kq ≤ kj24) ∧ Aside0 (wc.heap[gb969]? = some (.cells #[.int .i64 a0_0, .int .i64 a0_1, .int .i64 a0_2, .string a0_3, .int .i64 a0_4] 25 (0, 0))) ∧ Aside0 (wc.heap[gb970]? = some (.cells #[.int .i64 a1_0, .int .i64 a1_1, .int .i64 a1_2, .string a1_3, .int .i64 a1_4] 25 (0, 0))) ∧ Aside0 (wc.heap[gb971]? = some (.cells #[.int .i64 0, .int .i64 0, .int .i64 0, .string (⟨#[]⟩ : ByteArray), .int .i64 0] 25 (0, 0))) ∧ Aside0 (Below w.heap.size w wc))
     case first =>
      have H := HC35.out
      clear HC35
      by_cases c36 : x15_24 = true
      ·subst c36
       (try simp only [Bool.not_true, Bool.not_false])
       replace H := ift H
       have H' := am H
       clear H
       go_wp2
       go_meet
       case rel => exact ⟨_, (true), sz, H', ⟨ob HJ2 HJ24⟩, ⟨bk BK969.out⟩, ⟨bk BK970.out⟩, ⟨bk BK971.out⟩, ⟨bz HB.out⟩⟩
      replace c36 := Bool.eq_false_iff.mpr c36
      subst c36
      (try simp only [Bool.not_true, Bool.not_false])
      replace H := iff_ H
      have H' := am H
      clear H
      have hnb37 := NB969_970.out
      have hnc37 := NB970_969.out
      have hnb38 := NB969_971.out
      have hnc38 := NB971_969.out
      obtain ⟨Z39_0, Z39_1, Z39_2, Z39_3, Z39_4, F39_0, F39_1, F39_2, F39_3, F39_4⟩ := cz5 BK969.out
      have hnb40 := NB970_971.out
      have hnc40 := NB971_970.out
      obtain ⟨Z41_0, Z41_1, Z41_2, Z41_3, Z41_4, F41_0, F41_1, F41_2, F41_3, F41_4⟩ := cz5 BK970.out
      go_wp2
      go_meet
      case rel => exact ⟨_, ((a0_0 == a1_0)), sz, H', ⟨ob HJ2 HJ24⟩, ⟨bk BK969.out⟩, ⟨bk BK970.out⟩, ⟨bk BK971.out⟩, ⟨bz HB.out⟩⟩
     case rest =>
      clear HC35
      try clear c8; try clear c21; try clear c26; try clear c26b0; try clear c26b1; try clear Z12_0; try clear Z12_1; try clear Z12_2; try clear Z12_3; try clear Z12_4; try clear Z15_0; try clear Z15_1; try clear Z15_2; try clear Z15_3; try clear Z15_4; try clear Z19_0; try clear Z19_1; try clear Z19_2; try clear Z19_3; try clear Z19_4; try clear Z24_0; try clear Z24_1; try clear Z24_2; try clear Z24_3; try clear Z24_4; try clear Z29_0; try clear Z29_1; try clear Z29_2; try clear Z29_3; try clear Z29_4; try clear Z32_0; try clear Z32_1; try clear Z32_2; try clear Z32_3; try clear Z32_4; try clear Z34_0; try clear Z34_1; try clear Z34_2; try clear Z34_3; try clear Z34_4; try clear F12_0; try clear F12_1; try clear F12_2; try clear F12_3; try clear F12_4; try clear F15_0; try clear F15_1; try clear F15_2; try clear F15_3; try clear F15_4; try clear F19_0; try clear F19_1; try clear F19_2; try clear F19_3; try clear F19_4; try clear F24_0; try clear F24_1; try clear F24_2; try clear F24_3; try clear F24_4; try clear F29_0; try clear F29_1; try clear F29_2; try clear F29_3; try clear F29_4; try clear F32_0; try clear F32_1; try clear F32_2; try clear F32_3; try clear F32_4; try clear F34_0; try clear F34_1; try clear F34_2; try clear F34_3; try clear F34_4
      obtain ⟨kq, x15_34, rfl, HA, HJ34, BK969, BK970, BK971, HB⟩ := hcut; obtain ⟨_, _, _, _, _⟩ := nz HT HB
      cases kq with
      | zero => exact absurd HA.out (by simp [calc_Equal.j2])
      | succ kj34 =>
       have H := HA.out
       clear HA
       simp only [calc_Equal.j2] at H
       by_cases c42 : x15_34 = true
       ·subst c42
        (try simp only [Bool.not_true, Bool.not_false])
        replace H := ift H
        replace H := obe5 H
        obtain ⟨t974, t975, t976, t977, t978, A43, H⟩ := H
        simp only [Option.some.injEq, Prod.mk.injEq] at H
        obtain ⟨rfl, rfl, rfl, rfl, rfl⟩ := H
        have hnb44 := NB969_970.out
        have hnc44 := NB970_969.out
        have hnb45 := NB969_971.out
        have hnc45 := NB971_969.out
        obtain ⟨Z46_0, Z46_1, Z46_2, Z46_3, Z46_4, F46_0, F46_1, F46_2, F46_3, F46_4⟩ := cz5 BK969.out
        have hnb47 := NB970_971.out
        have hnc47 := NB971_970.out
        obtain ⟨Z48_0, Z48_1, Z48_2, Z48_3, Z48_4, F48_0, F48_1, F48_2, F48_3, F48_4⟩ := cz5 BK970.out
        go_wp2_with (first | ((with_reducible refine gate_callee (f := 59) rfl ?_); refine gl_ (some 32) Tryz.func59 (by kernel_rfl) #[.bool (a0_0 == a1_0 && ((a0_1 == a1_1 && (a0_2 == a1_2)) && (a0_3.toList == a1_3.toList && (a0_4 == a1_4))))] rfl ?_; (with_reducible refine (logic_Truth.calls (a0_0 == a1_0 && ((a0_1 == a1_1 && (a0_2 == a1_2)) && (a0_3.toList == a1_3.toList && (a0_4 == a1_4)))) t974 t975 t976 t977 t978 _ A43.out).mono ?_); rintro e w49 ⟨rfl, hb⟩; refine ⟨_, rfl, ?_⟩; replace BK969 := kb BK969 hb; replace BK970 := kb BK970 hb; replace BK971 := kb BK971 hb; replace HB := sb HB hb; obtain ⟨_, _, _, _, _⟩ := nz HT HB; clear hb; obtain ⟨Z50_0, Z50_1, Z50_2, Z50_3, Z50_4, F50_0, F50_1, F50_2, F50_3, F50_4⟩ := cz5 BK971.out))
        refine bodyPost_ret (results_cell_row rfl _ _ gb971 25 #[.int .i64 t974, .int .i64 t975, .int .i64 t976, .string t977, .int .i64 t978] (0, 0) _ rfl (bp BK971.out) Tryz.underlying25 rfl (by kernel_rfl)) rfl ?_
        exact ⟨az, bz HB.out⟩
       replace c42 := Bool.eq_false_iff.mpr c42
       subst c42
       (try simp only [Bool.not_true, Bool.not_false])
       replace H := iff_ H
       simp only [Option.some.injEq, Prod.mk.injEq] at H
       obtain ⟨rfl, rfl, rfl, rfl, rfl⟩ := H
       have hnb51 := NB971_969.out
       have hnc51 := NB969_971.out
       have hnb52 := NB971_970.out
       have hnc52 := NB970_971.out
       obtain ⟨Z53_0, Z53_1, Z53_2, Z53_3, Z53_4, F53_0, F53_1, F53_2, F53_3, F53_4⟩ := cz5 BK971.out
       go_wp2
       refine bodyPost_ret (results_cell_row rfl _ _ gb971 25 #[.int .i64 0, .int .i64 0, .int .i64 0, .string (⟨#[]⟩ : ByteArray), .int .i64 0] (0, 0) _ rfl (bp BK971.out) Tryz.underlying25 rfl (by kernel_rfl)) rfl ?_
       exact ⟨az, bz HB.out⟩
end Go.Proofs.YtgkemhgihbfmmaaGreatDoor.PA
end
section
namespace Go.Proofs.YtgkemhgihbfmmaaGreatDoor.PA
open Go.RowKit Go.Proofs.YtgkemhgihbfmmaaGreatDoorW.PrintWords Go.Proofs.YtgkemhgihbfmmaaGreatDoorW.PrintLast Go.Proofs.YtgkemhgihbfmmaaGreatDoorW.PrintMore
attribute [local go_sem] max2_int min2_int max_two min_two max_three min_three max_four min_four isSome_set str_gtr
set_option linter.unusedVariables false
set_option linter.unusedSimpArgs false
def calc_Less.j0 : Nat → Int → Bool → Option (Int × Int × Int × ByteArray × Int)
 | 0, _, _ => none
 | k + 1, x5, x31 => if x31 = true then (some (0, 0, 0, (⟨#[]⟩ : ByteArray), 0)) else ((logic_Truth.f (decide (x5 < 0))).bind fun bt984 => (some (bt984.1, bt984.2.1, bt984.2.2.1, bt984.2.2.2.1, bt984.2.2.2.2)))
def calc_Less.f (k : Nat) (a0_0 a0_1 a0_2 : Int) (a0_3 : ByteArray) (a0_4 a1_0 a1_1 a1_2 : Int) (a1_3 : ByteArray) (a1_4 : Int) : Option (Int × Int × Int × ByteArray × Int) := (value_Compare.f k a0_0 a0_1 a0_2 a0_3 a0_4 a1_0 a1_1 a1_2 a1_3 a1_4).bind fun bt982 => (if bt982.2 = 0 then (if a0_0 = a1_0 then (if a0_0 = 0 then (calc_Less.j0 k bt982.1 true) else (calc_Less.j0 k bt982.1 (a0_0 == 3))) else (calc_Less.j0 k bt982.1 true)) else (calc_Less.j0 k bt982.1 true))
theorem calc_Less.mono_l : ∀ k, (∀ y0 y1, LeO (calc_Less.j0 k y0 y1) (calc_Less.j0 (k + 1) y0 y1))
 | 0 => fun _ _ r h => by simp [calc_Less.j0] at h
 | k + 1 => by
  have ih0 := calc_Less.mono_l k
  ·intro y0 y1
   unfold calc_Less.j0
   have q0 := @value_Compare.mono; exact lmo
theorem calc_Less.mono : ∀ a0 a1 a2 a3 a4 a5 a6 a7 a8 a9 k, LeO (calc_Less.f k a0 a1 a2 a3 a4 a5 a6 a7 a8 a9) (calc_Less.f (k + 1) a0 a1 a2 a3 a4 a5 a6 a7 a8 a9) := by
 intro a0 a1 a2 a3 a4 a5 a6 a7 a8 a9 k
 have ih0 := calc_Less.mono_l k
 unfold calc_Less.f
 have q0 := @value_Compare.mono; exact lmo
set_option maxHeartbeats 8000000 in
set_option maxRecDepth 100000 in
theorem calc_Less.calls (k : Nat) (a0_0 a0_1 a0_2 : Int) (a0_3 : ByteArray) (a0_4 a1_0 a1_1 a1_2 : Int) (a1_3 : ByteArray) (a1_4 r1 r2 r3 : Int) (r4 : ByteArray) (r5 : Int) (w : World) (hT : Tabs w) (h : calc_Less.f k a0_0 a0_1 a0_2 a0_3 a0_4 a1_0 a1_1 a1_2 a1_3 a1_4 = some (r1, r2, r3, r4, r5)) :
  Calls Tryz.prog 28 #[.agg #[.int .i64 a0_0, .int .i64 a0_1, .int .i64 a0_2, .string a0_3, .int .i64 a0_4], .agg #[.int .i64 a1_0, .int .i64 a1_1, .int .i64 a1_2, .string a1_3, .int .i64 a1_4]] w fun e w' => e = .returned (.agg #[.int .i64 r1, .int .i64 r2, .int .i64 r3, .string r4, .int .i64 r5]) ∧ Below w.heap.size w w' := by
 have hu25 := Tryz.underlying25
 have HT := am hT; have HZ := am hT.null.pos; obtain ⟨hn0_, hn1_, hn2_, hn3_, hn4_⟩ := hT.null
 clear hT
 have HB := am (Below.refl w.heap.size w)
 have H : ((value_Compare.f k a0_0 a0_1 a0_2 a0_3 a0_4 a1_0 a1_1 a1_2 a1_3 a1_4).bind fun bt982 => (if bt982.2 = 0 then (if a0_0 = a1_0 then (if a0_0 = 0 then (calc_Less.j0 k bt982.1 true) else (calc_Less.j0 k bt982.1 (a0_0 == 3))) else (calc_Less.j0 k bt982.1 true)) else (calc_Less.j0 k bt982.1 true))) = some (r1, r2, r3, r4, r5) := h
 clear h
 replace H := obe2 H
 obtain ⟨t982, t983, A3, H⟩ := H
 have HC4 := am H
 clear H
 go_enter Tryz.func28, Tryz.ntmps28
 go_upto_region 2 with (first | ((with_reducible refine gate_dst (N := 2) rfl ?_); refine bev (#[.int .i64 a0_0, .int .i64 a0_1, .int .i64 a0_2, .string a0_3, .int .i64 a0_4]) 25 ?_; intro gb979 hg w5 hbox hb; have BK979 := am (hbox); have GW979 := gs hg HB; have hz979 := ne0 HZ.out GW979.out; have GE979 := GW979; replace HB := sb HB hb; obtain ⟨_, _, _, _, _⟩ := nz HT HB; clear hb hbox hg) | ((with_reducible refine gate_dst (N := 3) rfl ?_); refine bev (#[.int .i64 a1_0, .int .i64 a1_1, .int .i64 a1_2, .string a1_3, .int .i64 a1_4]) 25 ?_; intro gb980 hg w6 hbox hb; have BK980 := am (hbox); have GW980 := gs hg HB; have hz980 := ne0 HZ.out GW980.out; have GE980 := GW980; replace HB := sb HB hb; obtain ⟨_, _, _, _, _⟩ := nz HT HB; have NB979_980 := na hg BK979; have NB980_979 := nb hg BK979; replace BK979 := kb BK979 hb; clear hb hbox hg) | ((with_reducible refine gate_dst (N := 4) rfl ?_); refine bev (#[.int .i64 0, .int .i64 0, .int .i64 0, .string (⟨#[]⟩ : ByteArray), .int .i64 0]) 25 ?_; intro gb981 hg w7 hbox hb; have BK981 := am (hbox); have GW981 := gs hg HB; have hz981 := ne0 HZ.out GW981.out; have GE981 := GW981; replace HB := sb HB hb; obtain ⟨_, _, _, _, _⟩ := nz HT HB; have NB979_981 := na hg BK979; have NB981_979 := nb hg BK979; replace BK979 := kb BK979 hb; have NB980_981 := na hg BK980; have NB981_980 := nb hg BK980; replace BK980 := kb BK980 hb; clear hb hbox hg; have hnb8 := NB979_980.out; have hnc8 := NB980_979.out; have hnb9 := NB979_981.out; have hnc9 := NB981_979.out; obtain ⟨Z10_0, Z10_1, Z10_2, Z10_3, Z10_4, F10_0, F10_1, F10_2, F10_3, F10_4⟩ := cz5 BK979.out; have hnb11 := NB980_981.out; have hnc11 := NB981_980.out; obtain ⟨Z12_0, Z12_1, Z12_2, Z12_3, Z12_4, F12_0, F12_1, F12_2, F12_3, F12_4⟩ := cz5 BK980.out) | ((with_reducible refine gate_callee (f := 61) rfl ?_); refine gl_ (some 10) Tryz.func61 (by kernel_rfl) #[.agg #[.int .i64 a0_0, .int .i64 a0_1, .int .i64 a0_2, .string a0_3, .int .i64 a0_4], .agg #[.int .i64 a1_0, .int .i64 a1_1, .int .i64 a1_2, .string a1_3, .int .i64 a1_4]] rfl ?_; (with_reducible refine (value_Compare.calls k a0_0 a0_1 a0_2 a0_3 a0_4 a1_0 a1_1 a1_2 a1_3 a1_4 t982 t983 _ ?side1 A3.out).mono ?_); (case side1 => exact tabs_of HT.out (bz HB.out)); rintro e w13 ⟨rfl, hb⟩; refine ⟨_, rfl, ?_⟩; replace BK979 := kb BK979 hb; replace BK980 := kb BK980 hb; replace BK981 := kb BK981 hb; replace HB := sb HB hb; obtain ⟨_, _, _, _, _⟩ := nz HT HB; clear hb))
 (try simp only [Act.put, List.setIfInBounds_toArray, List.set_cons_zero, List.set_cons_succ])
 go_cut [31] (fun v31 wc => ∃ (kq : Nat) (x31_3 : Bool), v31 = .bool x31_3 ∧ Aside0 (calc_Less.j0 kq t982 x31_3 = some (r1, r2, r3, r4, r5)) ∧ Aside0 (kq ≤ k) ∧ Aside0 (wc.heap[gb979]? = some (.cells #[.int .i64 a0_0, .int .i64 a0_1, .int .i64 a0_2, .string a0_3, .int .i64 a0_4] 25 (0, 0))) ∧ Aside0 (wc.heap[gb980]? = some (.cells #[.int .i64 a1_0, .int .i64 a1_1, .int .i64 a1_2, .string a1_3, .int .i64 a1_4] 25 (0, 0))) ∧ Aside0 (wc.heap[gb981]? = some (.cells #[.int .i64 0, .int .i64 0, .int .i64 0, .string (⟨#[]⟩ : ByteArray), .int .i64 0] 25 (0, 0))) ∧ Aside0 (Below w.heap.size w wc))
 case first =>
  have H := HC4.out
  clear HC4
  by_cases c14 : t983 = 0
  ·replace H := ipe c14 H
   obtain ⟨H, c14b0, c14b1⟩ := H
   clear c14
   (first | rw [c14b0] | (simp only [i64_w, i32_w]; rw [c14b0]) | skip)
   by_cases c15 : a0_0 = a1_0
   ·replace H := ipe c15 H
    obtain ⟨H, c15b0, c15b1⟩ := H
    clear c15
    by_cases c16 : a0_0 = 0
    ·replace H := ipe c16 H
     obtain ⟨H, c16b0, c16b1⟩ := H
     clear c16
     have H' := am H
     clear H
     have hnb17 := NB979_980.out
     have hnc17 := NB980_979.out
     have hnb18 := NB979_981.out
     have hnc18 := NB981_979.out
     obtain ⟨Z19_0, Z19_1, Z19_2, Z19_3, Z19_4, F19_0, F19_1, F19_2, F19_3, F19_4⟩ := cz5 BK979.out
     have hnb20 := NB980_981.out
     have hnc20 := NB981_980.out
     obtain ⟨Z21_0, Z21_1, Z21_2, Z21_3, Z21_4, F21_0, F21_1, F21_2, F21_3, F21_4⟩ := cz5 BK980.out
     go_wp2
     go_meet
     case rel => exact ⟨_, (true), sz, H', ⟨oz⟩, ⟨bk BK979.out⟩, ⟨bk BK980.out⟩, ⟨bk BK981.out⟩, ⟨bz HB.out⟩⟩
    replace H := ine c16 H
    obtain ⟨H, c16b0, c16b1⟩ := H
    have H' := am H
    clear H
    have hnb22 := NB979_980.out
    have hnc22 := NB980_979.out
    have hnb23 := NB979_981.out
    have hnc23 := NB981_979.out
    obtain ⟨Z24_0, Z24_1, Z24_2, Z24_3, Z24_4, F24_0, F24_1, F24_2, F24_3, F24_4⟩ := cz5 BK979.out
    have hnb25 := NB980_981.out
    have hnc25 := NB981_980.out
    obtain ⟨Z26_0, Z26_1, Z26_2, Z26_3, Z26_4, F26_0, F26_1, F26_2, F26_3, F26_4⟩ := cz5 BK980.out
    go_wp2
    go_meet
    case rel => exact ⟨_, ((a0_0 == 3)), sz, H', ⟨oz⟩, ⟨bk BK979.out⟩, ⟨bk BK980.out⟩, ⟨bk BK981.out⟩, ⟨bz HB.out⟩⟩
   replace H := ine c15 H
   obtain ⟨H, c15b0, c15b1⟩ := H
   have H' := am H
   clear H
   have hnb27 := NB979_980.out
   have hnc27 := NB980_979.out
   have hnb28 := NB979_981.out
   have hnc28 := NB981_979.out
   obtain ⟨Z29_0, Z29_1, Z29_2, Z29_3, Z29_4, F29_0, F29_1, F29_2, F29_3, F29_4⟩ := cz5 BK979.out
   have hnb30 := NB980_981.out
   have hnc30 := NB981_980.out
   obtain ⟨Z31_0, Z31_1, Z31_2, Z31_3, Z31_4, F31_0, F31_1, F31_2, F31_3, F31_4⟩ := cz5 BK980.out
   go_wp2
   go_meet
   case rel => exact ⟨_, (true), sz, H', ⟨oz⟩, ⟨bk BK979.out⟩, ⟨bk BK980.out⟩, ⟨bk BK981.out⟩, ⟨bz HB.out⟩⟩
  replace H := ine c14 H
  obtain ⟨H, c14b0, c14b1⟩ := H
  (first | rw [c14b0] | (simp only [i64_w, i32_w]; rw [c14b0]) | skip)
  have H' := am H
  clear H
  go_wp2
  go_meet
  case rel => exact ⟨_, (true), sz, H', ⟨oz⟩, ⟨bk BK979.out⟩, ⟨bk BK980.out⟩, ⟨bk BK981.out⟩, ⟨bz HB.out⟩⟩
 case rest =>
  clear HC4
  try clear Z10_0; try clear Z10_1; try clear Z10_2; try clear Z10_3; try clear Z10_4; try clear Z12_0; try clear Z12_1; try clear Z12_2; try clear Z12_3; try clear Z12_4; try clear F10_0; try clear F10_1; try clear F10_2; try clear F10_3; try clear F10_4; try clear F12_0; try clear F12_1; try clear F12_2; try clear F12_3; try clear F12_4
  obtain ⟨kq, x31_3, rfl, HA, HJ3, BK979, BK980, BK981, HB⟩ := hcut; obtain ⟨_, _, _, _, _⟩ := nz HT HB
  cases kq with
  | zero => exact absurd HA.out (by simp [calc_Less.j0])
  | succ kj3 =>
   have H := HA.out
   clear HA
   simp only [calc_Less.j0] at H
   by_cases c32 : x31_3 = true
   ·subst c32
    (try simp only [Bool.not_true, Bool.not_false])
    replace H := ift H
    simp only [Option.some.injEq, Prod.mk.injEq] at H
    obtain ⟨rfl, rfl, rfl, rfl, rfl⟩ := H
    have hnb33 := NB981_979.out
    have hnc33 := NB979_981.out
    have hnb34 := NB981_980.out
    have hnc34 := NB980_981.out
    obtain ⟨Z35_0, Z35_1, Z35_2, Z35_3, Z35_4, F35_0, F35_1, F35_2, F35_3, F35_4⟩ := cz5 BK981.out
    go_wp2
    refine bodyPost_ret (results_cell_row rfl _ _ gb981 25 #[.int .i64 0, .int .i64 0, .int .i64 0, .string (⟨#[]⟩ : ByteArray), .int .i64 0] (0, 0) _ rfl (bp BK981.out) Tryz.underlying25 rfl (by kernel_rfl)) rfl ?_
    exact ⟨az, bz HB.out⟩
   replace c32 := Bool.eq_false_iff.mpr c32
   subst c32
   (try simp only [Bool.not_true, Bool.not_false])
   replace H := iff_ H
   replace H := obe5 H
   obtain ⟨t984, t985, t986, t987, t988, A36, H⟩ := H
   simp only [Option.some.injEq, Prod.mk.injEq] at H
   obtain ⟨rfl, rfl, rfl, rfl, rfl⟩ := H
   go_wp2_with (first | ((with_reducible refine gate_callee (f := 59) rfl ?_); refine gl_ (some 35) Tryz.func59 (by kernel_rfl) #[.bool (decide (t982 < 0))] rfl ?_; (with_reducible refine (logic_Truth.calls (decide (t982 < 0)) t984 t985 t986 t987 t988 _ A36.out).mono ?_); rintro e w37 ⟨rfl, hb⟩; refine ⟨_, rfl, ?_⟩; replace BK979 := kb BK979 hb; replace BK980 := kb BK980 hb; replace BK981 := kb BK981 hb; replace HB := sb HB hb; obtain ⟨_, _, _, _, _⟩ := nz HT HB; clear hb; have hnb38 := NB981_979.out; have hnc38 := NB979_981.out; have hnb39 := NB981_980.out; have hnc39 := NB980_981.out; obtain ⟨Z40_0, Z40_1, Z40_2, Z40_3, Z40_4, F40_0, F40_1, F40_2, F40_3, F40_4⟩ := cz5 BK981.out))
   refine bodyPost_ret (results_cell_row rfl _ _ gb981 25 #[.int .i64 t984, .int .i64 t985, .int .i64 t986, .string t987, .int .i64 t988] (0, 0) _ rfl (bp BK981.out) Tryz.underlying25 rfl (by kernel_rfl)) rfl ?_
   exact ⟨az, bz HB.out⟩
end Go.Proofs.YtgkemhgihbfmmaaGreatDoor.PA
end
section
namespace Go.Proofs.YtgkemhgihbfmmaaGreatDoor.PA
open Go.RowKit Go.Proofs.YtgkemhgihbfmmaaGreatDoorW.PrintWords Go.Proofs.YtgkemhgihbfmmaaGreatDoorW.PrintLast Go.Proofs.YtgkemhgihbfmmaaGreatDoorW.PrintMore
attribute [local go_sem] max2_int min2_int max_two min_two max_three min_three max_four min_four isSome_set str_gtr
set_option linter.unusedVariables false
set_option linter.unusedSimpArgs false
attribute [local go_sem high] eqA25
def logic_Is.f (a0_0 a0_1 a0_2 : Int) (a0_3 : ByteArray) (a0_4 : Int) : Option (Bool) := (logic_Truth.f true).bind fun bt990 => (some (a0_0 == bt990.1 && ((a0_1 == bt990.2.1 && (a0_2 == bt990.2.2.1)) && (a0_3.toList == bt990.2.2.2.1.toList && (a0_4 == bt990.2.2.2.2)))))
set_option maxHeartbeats 8000000 in
set_option maxRecDepth 100000 in
theorem logic_Is.calls (a0_0 a0_1 a0_2 : Int) (a0_3 : ByteArray) (a0_4 : Int) (r : Bool) (w : World) (h : logic_Is.f a0_0 a0_1 a0_2 a0_3 a0_4 = some r) :
  Calls Tryz.prog 78 #[.agg #[.int .i64 a0_0, .int .i64 a0_1, .int .i64 a0_2, .string a0_3, .int .i64 a0_4]] w fun e w' => e = .returned (.bool r) ∧ Below w.heap.size w w' := by
 have hu25 := Tryz.underlying25
 have HB := am (Below.refl w.heap.size w)
 have H : ((logic_Truth.f true).bind fun bt990 => (some (a0_0 == bt990.1 && ((a0_1 == bt990.2.1 && (a0_2 == bt990.2.2.1)) && (a0_3.toList == bt990.2.2.2.1.toList && (a0_4 == bt990.2.2.2.2)))))) = some r := h
 clear h
 replace H := obe5 H
 obtain ⟨t990, t991, t992, t993, t994, A2, H⟩ := H
 obtain rfl := Option.some.inj H
 go_enter Tryz.func78, Tryz.ntmps78
 try go_wp2_with (first | ((with_reducible refine gate_dst (N := 1) rfl ?_); refine bev (#[.int .i64 a0_0, .int .i64 a0_1, .int .i64 a0_2, .string a0_3, .int .i64 a0_4]) 25 ?_; intro gb989 hg w3 hbox hb; have BK989 := am (hbox); have GW989 := gs hg HB; have GE989 := GW989; replace HB := sb HB hb; clear hb hbox hg))
 replace BK989 := am (blk_drew BK989.out)
 replace HB := am (below_drew1 HB.out)
 refine start_ (n := 4) (S := fun w' => w'.cell? ⟨gb989, 0, none⟩ = some (.int .i64 a0_0) ∧ w'.cell? ⟨gb989, 1, none⟩ = some (.int .i64 a0_1) ∧ w'.cell? ⟨gb989, 2, none⟩ = some (.int .i64 a0_2) ∧ w'.cell? ⟨gb989, 3, none⟩ = some (.string a0_3) ∧ w'.cell? ⟨gb989, 4, none⟩ = some (.int .i64 a0_4)) (ds := []) #[false, false, false, false] (by kernel_rfl) rfl rfl ⟨(blk_cell BK989.out 0).trans rfl, (blk_cell BK989.out 1).trans rfl, (blk_cell BK989.out 2).trans rfl, (blk_cell BK989.out 3).trans rfl, (blk_cell BK989.out 4).trans rfl⟩ (fun hHeld => ?_)
 generalize w3.drew = w4 at BK989 HB hHeld ⊢
 refine ta 0 (some 3) (bts 4 1) (by kernel_rfl) hHeld ?_
 refine one_ (i := 1) (N := some 4) (bts 4 3) rfl rfl (by kernel_rfl) (by decide) (fun K hK => ?_)
 refine goes_ Tryz.func59 (by kernel_rfl) rfl #[.bool true] (by rfl) rfl rfl lz ?_
 with_reducible refine (logic_Truth.calls true t990 t991 t992 t993 t994 _ A2.out).mono ?_
 rintro e w5 ⟨rfl, hb⟩
 refine ⟨_, rfl, ?_⟩
 replace BK989 := kb BK989 hb
 replace HB := sb HB hb
 (try clear hb)
 (try clear hb2)
 (try clear hk)
 (try clear hi)
 refine hK.out _ _ ⟨(blk_cell BK989.out 0).trans rfl, (blk_cell BK989.out 1).trans rfl, (blk_cell BK989.out 2).trans rfl, (blk_cell BK989.out 3).trans rfl, (blk_cell BK989.out 4).trans rfl⟩ (fun hHeld => ?_)
 clear hK K
 refine norm_ (a' := ?_) ?_ ?_
 rotate_left
 ·show Act.put _ (some 4) _ = _
  simp only [Act.put, List.setIfInBounds_toArray, List.set_cons_zero, List.set_cons_succ, i64_w, i32_w]
  rfl
 refine pu 2 (some 5) (bts 4 7) (by kernel_rfl) ?_
 refine pu 3 (some 2) (bts 4 15) (by kernel_rfl) ?_
 refine done_ (by kernel_rfl) ?_
 try go_wp2
 go_ret
 exact ⟨az, bz HB.out⟩
end Go.Proofs.YtgkemhgihbfmmaaGreatDoor.PA
end
section
namespace Go.Proofs.YtgkemhgihbfmmaaGreatDoor.PA
open Go.RowKit Go.Proofs.YtgkemhgihbfmmaaGreatDoorW.PrintWords Go.Proofs.YtgkemhgihbfmmaaGreatDoorW.PrintLast Go.Proofs.YtgkemhgihbfmmaaGreatDoorW.PrintMore
attribute [local go_sem] max2_int min2_int max_two min_two max_three min_three max_four min_four isSome_set str_gtr
set_option linter.unusedVariables false
set_option linter.unusedSimpArgs false
def deci_size.f (a0_0 a0_1 : Int) : Option (Int) := some (IntKind.u64.wrap (mx a0_0 (wrap64 (-a0_0))))
set_option maxHeartbeats 8000000 in
set_option maxRecDepth 100000 in
theorem deci_size.calls (a0_0 a0_1 r : Int) (w : World) (h : deci_size.f a0_0 a0_1 = some r) :
  Calls Tryz.prog 93 #[.agg #[.int .i64 a0_0, .int .i64 a0_1]] w fun e w' => e = .returned (.int .u64 r) ∧ Below w.heap.size w w' := by
 have hu23 := Tryz.underlying23
 have HB := am (Below.refl w.heap.size w)
 have H : (some (IntKind.u64.wrap (mx a0_0 (wrap64 (-a0_0))))) = some r := h
 clear h
 obtain ⟨ji2, hji2⟩ : ∃ j_ : Int, (mx a0_0 (wrap64 (-a0_0))) = j_ := ⟨_, rfl⟩
 replace H : (some (IntKind.u64.wrap (ji2))) = some r := by first | (rw [hji2] at H; exact H) | (simp only [hji2] at H ⊢; exact H)
 have hji2_ : (if a0_0 < (wrap64 (-a0_0)) then (wrap64 (-a0_0)) else a0_0) = ji2 := hji2
 obtain rfl := Option.some.inj H
 go_enter Tryz.func93, Tryz.ntmps93
 go_wp2_with (first | ((with_reducible refine gate_dst (N := 1) rfl ?_); refine bev (#[.int .i64 a0_0, .int .i64 a0_1]) 23 ?_; intro gb995 hg w3 hbox hb; have BK995 := am (hbox); have GW995 := gs hg HB; have GE995 := GW995; replace HB := sb HB hb; clear hb hbox hg; obtain ⟨Z4_0, Z4_1, F4_0, F4_1⟩ := cz2 BK995.out))
 go_ret
 exact ⟨by first | rfl | (simp [errW_none, errW_some] <;> rfl) | (simp only [← hji2]; first | rfl | (simp [errW_none, errW_some] <;> rfl)) | (simp [*, errW_none, errW_some] <;> rfl), bz HB.out⟩
end Go.Proofs.YtgkemhgihbfmmaaGreatDoor.PA
end
section
namespace Go.Proofs.YtgkemhgihbfmmaaGreatDoor.PA
open Go.RowKit Go.Proofs.YtgkemhgihbfmmaaGreatDoorW.PrintWords Go.Proofs.YtgkemhgihbfmmaaGreatDoorW.PrintLast Go.Proofs.YtgkemhgihbfmmaaGreatDoorW.PrintMore
attribute [local go_sem] max2_int min2_int max_two min_two max_three min_three max_four min_four isSome_set str_gtr
set_option linter.unusedVariables false
set_option linter.unusedSimpArgs false
end Go.Proofs.YtgkemhgihbfmmaaGreatDoor.PA
end
section
namespace Go.Proofs.YtgkemhgihbfmmaaGreatDoor.PA
open Go.RowKit Go.Proofs.YtgkemhgihbfmmaaGreatDoorW.PrintWords Go.Proofs.YtgkemhgihbfmmaaGreatDoorW.PrintLast Go.Proofs.YtgkemhgihbfmmaaGreatDoorW.PrintMore
attribute [local go_sem] max2_int min2_int max_two min_two max_three min_three max_four min_four isSome_set str_gtr
set_option linter.unusedVariables false
set_option linter.unusedSimpArgs false
end Go.Proofs.YtgkemhgihbfmmaaGreatDoor.PA
end
section
namespace Go.Proofs.YtgkemhgihbfmmaaGreatDoor.PA
open Go.RowKit Go.Proofs.YtgkemhgihbfmmaaGreatDoorW.PrintWords Go.Proofs.YtgkemhgihbfmmaaGreatDoorW.PrintLast Go.Proofs.YtgkemhgihbfmmaaGreatDoorW.PrintMore
attribute [local go_sem] max2_int min2_int max_two min_two max_three min_three max_four min_four isSome_set str_gtr
set_option linter.unusedVariables false
set_option linter.unusedSimpArgs false
def bits_Div64.f (a0 a1 a2 : Int) : Option (Int × Int) := if a2 = 0 then (none) else (if a2 ≤ a0 then (none) else (if a0 = 0 then (some (IntKind.u64.wrap (Int.tdiv a1 a2), Int.tmod a1 a2)) else (none)))
set_option maxHeartbeats 8000000 in
set_option maxRecDepth 100000 in
theorem bits_Div64.calls (a0 a1 a2 r1 r2 : Int) (w : World) (h : bits_Div64.f a0 a1 a2 = some (r1, r2)) :
  Calls Tryz.prog 137 #[.int .u64 a0, .int .u64 a1, .int .u64 a2] w fun e w' => e = .returned (.tuple #[.int .u64 r1, .int .u64 r2]) ∧ Drawn0 w w' := by
 have H : (if a2 = 0 then (none) else (if a2 ≤ a0 then (none) else (if a0 = 0 then (some (IntKind.u64.wrap (Int.tdiv a1 a2), Int.tmod a1 a2)) else (none)))) = some (r1, r2) := h
 clear h
 by_cases c4 : a2 = 0
 ·rw [if_pos c4] at H
  exact absurd H (by simp)
 replace H := ine c4 H
 obtain ⟨H, c4b0, c4b1⟩ := H
 by_cases c5 : a2 ≤ a0
 ·rw [if_pos c5] at H
  exact absurd H (by simp)
 rw [if_neg c5] at H
 have c5b0 : decide (a2 ≤ a0) = false := decide_eq_false c5
 clear c5
 by_cases c6 : a0 = 0
 ·replace H := ipe c6 H
  obtain ⟨H, c6b0, c6b1⟩ := H
  clear c6
  simp only [Option.some.injEq, Prod.mk.injEq] at H
  obtain ⟨rfl, rfl⟩ := H
  go_enter Tryz.func137, Tryz.ntmps137
  go_wp2
  repeat (go_quiet (fail); try go_wp2)
  go_ret2
  exact ⟨sz, dz⟩
 rw [if_neg c6] at H
 exact absurd H (by simp)
end Go.Proofs.YtgkemhgihbfmmaaGreatDoor.PA
end
section
namespace Go.Proofs.YtgkemhgihbfmmaaGreatDoor.PA
open Go.RowKit Go.Proofs.YtgkemhgihbfmmaaGreatDoorW.PrintWords Go.Proofs.YtgkemhgihbfmmaaGreatDoorW.PrintLast Go.Proofs.YtgkemhgihbfmmaaGreatDoorW.PrintMore
attribute [local go_sem] max2_int min2_int max_two min_two max_three min_three max_four min_four isSome_set str_gtr
set_option linter.unusedVariables false
set_option linter.unusedSimpArgs false
def deci_even.j0 : Nat → Int → Bool → Option (Int × Bool)
 | 0, _, _ => none
 | k + 1, x8, x36 => if x36 = true then (none) else (some (x8, true))
def deci_even.f (k : Nat) (a0 a1 a2 : Int) : Option (Int × Bool) := if a0 ≥ a2 then (none) else ((bits_Div64.f a0 a1 a2).bind fun bt996 => (if bt996.2 > (IntKind.u64.wrap (a2 - bt996.2)) then (deci_even.j0 k bt996.1 true) else (if bt996.2 = (IntKind.u64.wrap (a2 - bt996.2)) then (deci_even.j0 k bt996.1 ((Int.tmod bt996.1 2) == 1)) else (deci_even.j0 k bt996.1 false))))
theorem deci_even.mono_l : ∀ k, (∀ y0 y1, LeO (deci_even.j0 k y0 y1) (deci_even.j0 (k + 1) y0 y1))
 | 0 => fun _ _ r h => by simp [deci_even.j0] at h
 | k + 1 => by
  have ih0 := deci_even.mono_l k
  ·intro y0 y1
   unfold deci_even.j0
   exact lmo
theorem deci_even.mono : ∀ a0 a1 a2 k, LeO (deci_even.f k a0 a1 a2) (deci_even.f (k + 1) a0 a1 a2) := by
 intro a0 a1 a2 k
 have ih0 := deci_even.mono_l k
 unfold deci_even.f
 exact lmo
set_option maxHeartbeats 8000000 in
set_option maxRecDepth 100000 in
theorem deci_even.calls (k : Nat) (a0 a1 a2 r1 : Int) (r2 : Bool) (w : World) (h : deci_even.f k a0 a1 a2 = some (r1, r2)) :
  Calls Tryz.prog 96 #[.int .u64 a0, .int .u64 a1, .int .u64 a2] w fun e w' => e = .returned (.tuple #[.int .u64 r1, .bool r2]) ∧ Drawn0 w w' := by
 have H : (if a0 ≥ a2 then (none) else ((bits_Div64.f a0 a1 a2).bind fun bt996 => (if bt996.2 > (IntKind.u64.wrap (a2 - bt996.2)) then (deci_even.j0 k bt996.1 true) else (if bt996.2 = (IntKind.u64.wrap (a2 - bt996.2)) then (deci_even.j0 k bt996.1 ((Int.tmod bt996.1 2) == 1)) else (deci_even.j0 k bt996.1 false))))) = some (r1, r2) := h
 clear h
 by_cases c4 : a0 ≥ a2
 ·rw [if_pos c4] at H
  exact absurd H (by simp)
 rw [if_neg c4] at H
 have c4b0 : decide (a2 ≤ a0) = false := decide_eq_false c4
 clear c4
 replace H := obe2 H
 obtain ⟨t996, t997, A5, H⟩ := H
 have HC6 := am H
 clear H
 go_enter Tryz.func96, Tryz.ntmps96
 go_upto_region 5 with (first | ((with_reducible refine gate_callee (f := 137) rfl ?_); refine gl_ (some 18) Tryz.func137 (by kernel_rfl) #[.int .u64 a0, .int .u64 a1, .int .u64 a2] rfl ?_; (with_reducible refine (bits_Div64.calls a0 a1 a2 t996 t997 _ A5.out).mono ?_); rintro e w' ⟨rfl, ⟨nd, rfl⟩⟩; refine ⟨_, rfl, ?_⟩))
 (try simp only [Act.put, List.setIfInBounds_toArray, List.set_cons_zero, List.set_cons_succ])
 go_cut [36] (fun v36 wc => ∃ (kq : Nat) (x36_5 : Bool), v36 = .bool x36_5 ∧ Aside0 (deci_even.j0 kq t996 x36_5 = some (r1, r2)) ∧ Aside0 (kq ≤ k) ∧ Drawn0 w wc)
 case first =>
  have H := HC6.out
  clear HC6
  by_cases c7 : t997 > (IntKind.u64.wrap (a2 - t997))
  ·rw [if_pos c7] at H
   have c7b0 : decide ((IntKind.u64.wrap (a2 - t997)) < t997) = true := decide_eq_true c7
   clear c7
   (first | rw [c7b0] | (simp only [i64_w, i32_w]; rw [c7b0]) | skip)
   have H' := am H
   clear H
   go_wp2
   go_meet
   case rel => exact ⟨_, (true), sz, H', ⟨oz⟩, dz⟩
  rw [if_neg c7] at H
  have c7b0 : decide ((IntKind.u64.wrap (a2 - t997)) < t997) = false := decide_eq_false c7
  clear c7
  (first | rw [c7b0] | (simp only [i64_w, i32_w]; rw [c7b0]) | skip)
  by_cases c8 : t997 = (IntKind.u64.wrap (a2 - t997))
  ·replace H := ipe c8 H
   obtain ⟨H, c8b0, c8b1⟩ := H
   clear c8
   have H' := am H
   clear H
   go_wp2
   go_meet
   case rel => exact ⟨_, (((Int.tmod t996 2) == 1)), sz, H', ⟨oz⟩, dz⟩
  replace H := ine c8 H
  obtain ⟨H, c8b0, c8b1⟩ := H
  have H' := am H
  clear H
  go_wp2
  go_meet
  case rel => exact ⟨_, (false), sz, H', ⟨oz⟩, dz⟩
 case rest =>
  clear HC6
  try clear c4; try clear c4b0
  obtain ⟨kq, x36_5, rfl, HA, HJ5, ⟨mc5, rfl⟩⟩ := hcut
  cases kq with
  | zero => exact absurd HA.out (by simp [deci_even.j0])
  | succ kj5 =>
   have H := HA.out
   clear HA
   simp only [deci_even.j0] at H
   by_cases c9 : x36_5 = true
   ·subst c9
    replace H := ift H
    exact absurd H (by simp)
   replace c9 := Bool.eq_false_iff.mpr c9
   subst c9
   replace H := iff_ H
   simp only [Option.some.injEq, Prod.mk.injEq] at H
   obtain ⟨rfl, rfl⟩ := H
   go_wp2
   go_ret2
   exact ⟨sz, dz⟩
end Go.Proofs.YtgkemhgihbfmmaaGreatDoor.PA
end
section
namespace Go.Proofs.YtgkemhgihbfmmaaGreatDoor.PA
open Go.RowKit Go.Proofs.YtgkemhgihbfmmaaGreatDoorW.PrintWords Go.Proofs.YtgkemhgihbfmmaaGreatDoorW.PrintLast Go.Proofs.YtgkemhgihbfmmaaGreatDoorW.PrintMore
attribute [local go_sem] max2_int min2_int max_two min_two max_three min_three max_four min_four isSome_set str_gtr
set_option linter.unusedVariables false
set_option linter.unusedSimpArgs false
def deci_Mul.f (k : Nat) (a0_0 a0_1 a1_0 a1_1 : Int) : Option (Int × Int × Int) := (deci_all.f k (([(⟨a0_0, a0_1⟩ : S23), (⟨a1_0, a1_1⟩ : S23)] : List (S23)))).bind fun t1004 => (if t1004 = 0 then ((deci_size.f a0_0 a0_1).bind fun t1005 => ((deci_size.f a1_0 a1_1).bind fun t1006 => ((bits_Mul64.f t1005 t1006).bind fun bt1007 => ((deci_power.f k (mx 0 (wrap64 ((wrap64 (a0_1 + a1_1)) - 6)))).bind fun t1009 => ((deci_even.f k bt1007.1 bt1007.2 t1009).bind fun bt1010 => (if bt1010.2 = true then ((deci_form_dec.f k bt1010.1 (mn (wrap64 (a0_1 + a1_1)) 6) ((decide (a0_0 < 0)) != (decide (a1_0 < 0)))).bind fun bt1012 => (some (bt1012.1, bt1012.2.1, bt1012.2.2))) else (none))))))) else (none))
theorem deci_Mul.mono : ∀ a0 a1 a2 a3 k, LeO (deci_Mul.f k a0 a1 a2 a3) (deci_Mul.f (k + 1) a0 a1 a2 a3) := by
 intro a0 a1 a2 a3 k
 unfold deci_Mul.f
 have q0 := @deci_all.mono; have q1 := @deci_even.mono; have q2 := @deci_form_dec.mono; have q3 := @deci_power.mono; exact lmo
def deci_Mul.T4 : Bool × List (List Nat × List Nat) := (true, [([], []), ([0], [0]), ([], []), ([2, 1], [2]), ([1, 3, 3], [1, 3]), ([4], [4]), ([5], [5]), ([5], [5]), ([6, 4, 0, 1, 2, 3, 4, 5, 6], [6]), ([7, 8, 0, 1, 2, 3, 4, 5, 6, 7, 8], [7])])
def deci_Mul.B4 : List Nat := [0, 1, 0, 7, 15, 31, 63, 63, 127, 511]
theorem deci_Mul.tab4 : rtab .any (opsOf Tryz.f119 4) = deci_Mul.T4 := by kernel_rfl
theorem deci_Mul.bits4 : waitsOk deci_Mul.T4.2 deci_Mul.B4 = true := by kernel_rfl
set_option maxHeartbeats 8000000 in
set_option maxRecDepth 100000 in
theorem deci_Mul.calls (k : Nat) (a0_0 a0_1 a1_0 a1_1 r1 r2 r3 : Int) (w : World) (h : deci_Mul.f k a0_0 a0_1 a1_0 a1_1 = some (r1, r2, r3)) :
  Calls Tryz.prog 119 #[.agg #[.int .i64 a0_0, .int .i64 a0_1], .agg #[.int .i64 a1_0, .int .i64 a1_1]] w fun e w' => e = .returned (.tuple #[.agg #[.int .i64 r1, .int .i64 r2], .int .i64 r3]) ∧ Below w.heap.size w w' := by
 have hu23 := Tryz.underlying23
 have hu77 := Tryz.underlying77
 have HB := am (Below.refl w.heap.size w)
 have H : ((deci_all.f k (([(⟨a0_0, a0_1⟩ : S23), (⟨a1_0, a1_1⟩ : S23)] : List (S23)))).bind fun t1004 => (if t1004 = 0 then ((deci_size.f a0_0 a0_1).bind fun t1005 => ((deci_size.f a1_0 a1_1).bind fun t1006 => ((bits_Mul64.f t1005 t1006).bind fun bt1007 => ((deci_power.f k (mx 0 (wrap64 ((wrap64 (a0_1 + a1_1)) - 6)))).bind fun t1009 => ((deci_even.f k bt1007.1 bt1007.2 t1009).bind fun bt1010 => (if bt1010.2 = true then ((deci_form_dec.f k bt1010.1 (mn (wrap64 (a0_1 + a1_1)) 6) ((decide (a0_0 < 0)) != (decide (a1_0 < 0)))).bind fun bt1012 => (some (bt1012.1, bt1012.2.1, bt1012.2.2))) else (none))))))) else (none))) = some (r1, r2, r3) := h
 clear h
 obtain ⟨y1001, hy1001⟩ : ∃ y_ : List (S23), y_ = (([(⟨a0_0, a0_1⟩ : S23), (⟨a1_0, a1_1⟩ : S23)] : List (S23))) := ⟨_, rfl⟩
 replace H : ((deci_all.f k y1001).bind fun t1004 => (if t1004 = 0 then ((deci_size.f a0_0 a0_1).bind fun t1005 => ((deci_size.f a1_0 a1_1).bind fun t1006 => ((bits_Mul64.f t1005 t1006).bind fun bt1007 => ((deci_power.f k (mx 0 (wrap64 ((wrap64 (a0_1 + a1_1)) - 6)))).bind fun t1009 => ((deci_even.f k bt1007.1 bt1007.2 t1009).bind fun bt1010 => (if bt1010.2 = true then ((deci_form_dec.f k bt1010.1 (mn (wrap64 (a0_1 + a1_1)) 6) ((decide (a0_0 < 0)) != (decide (a1_0 < 0)))).bind fun bt1012 => (some (bt1012.1, bt1012.2.1, bt1012.2.2))) else (none))))))) else (none))) = some (r1, r2, r3) := by first | (rw [hy1001]; with_reducible exact H) | (have H2_ := (Option.bind_some _ _).symm.trans H; rw [hy1001]; with_reducible exact H2_) | (have H2_ := (Option.bind_some _ _).symm.trans H; with_reducible exact H2_) | with_reducible exact H | (rw [hy1001]; exact H) | exact H
 have Ny1001 := am hy1001
 clear hy1001
 replace H := obe H
 obtain ⟨t1004, A3, H⟩ := H
 by_cases c4 : t1004 = 0
 ·replace H := ipe c4 H
  obtain ⟨H, c4b0, c4b1⟩ := H
  clear c4
  replace H := obe H
  obtain ⟨t1005, A5, H⟩ := H
  replace H := obe H
  obtain ⟨t1006, A6, H⟩ := H
  replace H := obe2 H
  obtain ⟨t1007, t1008, A7, H⟩ := H
  obtain ⟨ji8, hji8⟩ : ∃ j_ : Int, (mx 0 (wrap64 ((wrap64 (a0_1 + a1_1)) - 6))) = j_ := ⟨_, rfl⟩
  replace H : ((deci_power.f k (ji8)).bind fun t1009 => ((deci_even.f k t1007 t1008 t1009).bind fun bt1010 => (if bt1010.2 = true then ((deci_form_dec.f k bt1010.1 (mn (wrap64 (a0_1 + a1_1)) 6) ((decide (a0_0 < 0)) != (decide (a1_0 < 0)))).bind fun bt1012 => (some (bt1012.1, bt1012.2.1, bt1012.2.2))) else (none)))) = some (r1, r2, r3) := by first | (rw [hji8] at H; exact H) | (simp only [hji8] at H ⊢; exact H)
  (try rw [hji8] at A3)
  (try rw [hji8] at A5)
  (try rw [hji8] at A6)
  (try rw [hji8] at A7)
  (try (have hji8l : 0 ≤ ji8 := by (rw [← hji8]; unfold mx; (repeat' split) <;> omega)))
  (try (have hji8m : 0 ≤ ji8 := by omega))
  have hji8_ : (if 0 < (wrap64 ((wrap64 (a0_1 + a1_1)) - 6)) then (wrap64 ((wrap64 (a0_1 + a1_1)) - 6)) else 0) = ji8 := hji8
  replace H := obe H
  obtain ⟨t1009, A9, H⟩ := H
  replace H := obe2 H
  obtain ⟨t1010, t1011, A10, H⟩ := H
  by_cases c11 : t1011 = true
  ·subst c11
   replace H := ift H
   obtain ⟨ji12, hji12⟩ : ∃ j_ : Int, (mn (wrap64 (a0_1 + a1_1)) 6) = j_ := ⟨_, rfl⟩
   replace H : ((deci_form_dec.f k t1010 (ji12) ((decide (a0_0 < 0)) != (decide (a1_0 < 0)))).bind fun bt1012 => (some (bt1012.1, bt1012.2.1, bt1012.2.2))) = some (r1, r2, r3) := by first | (rw [hji12] at H; exact H) | (simp only [hji12] at H ⊢; exact H)
   (try rw [hji12] at A3)
   (try rw [hji12] at A5)
   (try rw [hji12] at A6)
   (try rw [hji12] at A7)
   (try rw [hji12] at A9)
   (try rw [hji12] at A10)
   (try (have hji12h : ji12 ≤ 6 := by (rw [← hji12]; unfold mn; (repeat' split) <;> omega)))
   (try (have hji12g : ji12 ≤ 64 := by omega))
   have hji12_ : (if 6 < (wrap64 (a0_1 + a1_1)) then 6 else (wrap64 (a0_1 + a1_1))) = ji12 := hji12
   replace H := obe3 H
   obtain ⟨t1012, t1013, t1014, A13, H⟩ := H
   simp only [Option.some.injEq, Prod.mk.injEq] at H
   obtain ⟨rfl, rfl, rfl⟩ := H
   go_enter Tryz.func119, Tryz.ntmps119
   try go_wp2_with (first | ((with_reducible refine gate_dst (N := 2) rfl ?_); refine bev (#[.int .i64 a0_0, .int .i64 a0_1]) 23 ?_; intro gb998 hg w14 hbox hb; have BK998 := am (hbox); have GW998 := gs hg HB; have GE998 := GW998; replace HB := sb HB hb; clear hb hbox hg) | ((with_reducible refine gate_dst (N := 3) rfl ?_); refine bev (#[.int .i64 a1_0, .int .i64 a1_1]) 23 ?_; intro gb999 hg w15 hbox hb; have BK999 := am (hbox); have GW999 := gs hg HB; have GE999 := GW999; replace HB := sb HB hb; have NB998_999 := na hg BK998; have NB999_998 := nb hg BK998; replace BK998 := kb BK998 hb; clear hb hbox hg) | ((with_reducible refine gate_dst (N := 4) rfl ?_); refine bev (#[.int .i64 0, .int .i64 0]) 23 ?_; intro gb1000 hg w16 hbox hb; have BK1000 := am (hbox); have GW1000 := gs hg HB; have GE1000 := GW1000; replace HB := sb HB hb; have NB998_1000 := na hg BK998; have NB1000_998 := nb hg BK998; replace BK998 := kb BK998 hb; have NB999_1000 := na hg BK999; have NB1000_999 := nb hg BK999; replace BK999 := kb BK999 hb; clear hb hbox hg; have hnb17 := NB998_999.out; have hnc17 := NB999_998.out; have hnb18 := NB998_1000.out; have hnc18 := NB1000_998.out; obtain ⟨Z19_0, Z19_1, F19_0, F19_1⟩ := cz2 BK998.out; have hnb20 := NB999_1000.out; have hnc20 := NB1000_999.out; obtain ⟨Z21_0, Z21_1, F21_0, F21_1⟩ := cz2 BK999.out) | ((with_reducible refine gate_dst (N := 14) rfl ?_); refine rlit k23 23 ([(⟨a0_0, a0_1⟩ : S23), (⟨a1_0, a1_1⟩ : S23)] : List (S23)) [.int .i64 a0_0, .int .i64 a0_1, .int .i64 a1_0, .int .i64 a1_1] ?_ (Below.refl _ _) (Nat.le_refl _) (Reps.c2 (show Kd.M k23 _ _ _ (⟨a0_0, a0_1⟩ : S23) [.int .i64 a0_0, .int .i64 a0_1] from (k23_mkM _ _ _ (⟨a0_0, a0_1⟩ : S23) )) (Reps.c2 (show Kd.M k23 _ _ _ (⟨a1_0, a1_1⟩ : S23) [.int .i64 a1_0, .int .i64 a1_1] from (k23_mkM _ _ _ (⟨a1_0, a1_1⟩ : S23) )) (Reps.none _ _))); intro v1002 w22 ho23 hb hg_ hnew_; clear hg_ hnew_; (first | rw [← Ny1001.out] at ho23 | (simp only [Int.reduceToNat] at ho23; rw [← Ny1001.out] at ho23)); have HO1003 := am (Kd.R_lower (Kd.R_newB (Kd.R_newB (Kd.R_newB ho23 (bk BK998.out)) (bk BK999.out)) (bk BK1000.out)) (below_size (bz HB.out))); replace BK998 := kb BK998 hb; replace BK999 := kb BK999 hb; replace BK1000 := kb BK1000 hb; replace HB := sb HB hb; clear hb ho23; obtain ⟨Ao24, co24, eo24⟩ := Kd.R_slice HO1003.out; subst eo24) | ((with_reducible refine gate_callee (f := 43) rfl ?_); refine gl_ (some 15) Tryz.func43 (by kernel_rfl) #[.slice Ao24 y1001.length co24] rfl ?_; (with_reducible refine (deci_all.calls k _ _ y1001 t1004 _ ?side1 ?side2 A3.out).mono ?_); (case side1 => repeat (first | exact (Kd.R_reads' HO1003.out).2.2 | (with_reducible refine Kd.C_alloc ?_ _) | (with_reducible refine Kd.C_drewN ?_ _) | (with_reducible refine Kd.C_drew ?_))); (case side2 => exact (Kd.R_reads' HO1003.out).2.1); rintro e w25 ⟨rfl, hb⟩; refine ⟨_, rfl, ?_⟩; replace HO1003 := am (Kd.R_below (rr HO1003.out) hb); replace BK998 := kb BK998 hb; replace BK999 := kb BK999 hb; replace BK1000 := kb BK1000 hb; replace HB := sb HB hb; clear hb))
   replace HO1003 := am (Kd.R_drew HO1003.out)
   replace BK998 := am (blk_drew BK998.out)
   replace BK999 := am (blk_drew BK999.out)
   replace BK1000 := am (blk_drew BK1000.out)
   replace HB := am (below_drew1 HB.out)
   refine start_ (n := 10) (S := fun w' => w'.cell? ⟨gb998, 0, none⟩ = some (.int .i64 a0_0) ∧ w'.cell? ⟨gb998, 1, none⟩ = some (.int .i64 a0_1) ∧ w'.cell? ⟨gb999, 0, none⟩ = some (.int .i64 a1_0) ∧ w'.cell? ⟨gb999, 1, none⟩ = some (.int .i64 a1_1)) (ds := []) (bts0 10) (by kernel_rfl) rfl rfl ⟨(blk_cell BK998.out 0).trans rfl, (blk_cell BK998.out 1).trans rfl, (blk_cell BK999.out 0).trans rfl, (blk_cell BK999.out 1).trans rfl⟩ (fun hHeld => ?_); refine with_tabW deci_Mul.tab4 deci_Mul.bits4 (fun HT_ HW_ => ?_)
   generalize w25.drew = w26 at HO1003 BK998 BK999 BK1000 HB hHeld ⊢
   refine ta 0 (some 21) (bts 10 1) (take_ofW HT_.out HW_.out (by kernel_rfl)) hHeld ?_
   refine ta 2 (some 23) (bts 10 5) (take_ofW HT_.out HW_.out (by kernel_rfl)) hHeld ?_
   refine one_ (i := 1) (N := some 22) (bts 10 7) rfl rfl (one_of HT_.out (by kernel_rfl)) (by decide) (fun K hK => ?_)
   refine goes_ Tryz.func93 (by kernel_rfl) rfl #[.agg #[.int .i64 a0_0, .int .i64 a0_1]] (by rfl) rfl rfl lz ?_
   with_reducible refine (deci_size.calls a0_0 a0_1 t1005 _ A5.out).mono ?_
   rintro e w27 ⟨rfl, hb⟩
   refine ⟨_, rfl, ?_⟩
   replace HO1003 := am (Kd.R_below (rr HO1003.out) hb)
   replace BK998 := kb BK998 hb
   replace BK999 := kb BK999 hb
   replace BK1000 := kb BK1000 hb
   replace HB := sb HB hb
   (try clear hb)
   (try clear hb2)
   (try clear hk)
   (try clear hi)
   refine hK.out _ _ ⟨(blk_cell BK998.out 0).trans rfl, (blk_cell BK998.out 1).trans rfl, (blk_cell BK999.out 0).trans rfl, (blk_cell BK999.out 1).trans rfl⟩ (fun hHeld => ?_)
   clear hK K
   refine norm_ (a' := ?_) ?_ ?_
   rotate_left
   ·show Act.put _ (some 22) _ = _
    simp only [Act.put, List.setIfInBounds_toArray, List.set_cons_zero, List.set_cons_succ, i64_w, i32_w]
    rfl
   refine one_ (i := 3) (N := some 24) (bts 10 15) rfl rfl (one_of HT_.out (by kernel_rfl)) (by decide) (fun K hK => ?_)
   refine goes_ Tryz.func93 (by kernel_rfl) rfl #[.agg #[.int .i64 a1_0, .int .i64 a1_1]] (by rfl) rfl rfl lz ?_
   with_reducible refine (deci_size.calls a1_0 a1_1 t1006 _ A6.out).mono ?_
   rintro e w28 ⟨rfl, hb⟩
   refine ⟨_, rfl, ?_⟩
   replace HO1003 := am (Kd.R_below (rr HO1003.out) hb)
   replace BK998 := kb BK998 hb
   replace BK999 := kb BK999 hb
   replace BK1000 := kb BK1000 hb
   replace HB := sb HB hb
   (try clear hb)
   (try clear hb2)
   (try clear hk)
   (try clear hi)
   refine hK.out _ _ ⟨(blk_cell BK998.out 0).trans rfl, (blk_cell BK998.out 1).trans rfl, (blk_cell BK999.out 0).trans rfl, (blk_cell BK999.out 1).trans rfl⟩ (fun hHeld => ?_)
   clear hK K
   refine norm_ (a' := ?_) ?_ ?_
   rotate_left
   ·show Act.put _ (some 24) _ = _
    simp only [Act.put, List.setIfInBounds_toArray, List.set_cons_zero, List.set_cons_succ, i64_w, i32_w]
    rfl
   refine one_ (i := 4) (N := some 25) (bts 10 31) rfl rfl (one_of HT_.out (by kernel_rfl)) (by decide) (fun K hK => ?_)
   refine goes_ Tryz.func95 (by kernel_rfl) rfl #[.int .u64 t1005, .int .u64 t1006] (by rfl) rfl rfl lz ?_
   with_reducible refine (bits_Mul64.calls t1005 t1006 t1007 t1008 _ A7.out).mono ?_
   rintro e w' ⟨rfl, ⟨nd, rfl⟩⟩
   refine ⟨_, rfl, ?_⟩
   refine hK.out _ _ ⟨(blk_cell BK998.out 0).trans rfl, (blk_cell BK998.out 1).trans rfl, (blk_cell BK999.out 0).trans rfl, (blk_cell BK999.out 1).trans rfl⟩ (fun hHeld => ?_)
   clear hK K
   refine norm_ (a' := ?_) ?_ ?_
   rotate_left
   ·show Act.put _ (some 25) _ = _
    simp only [Act.put, List.setIfInBounds_toArray, List.set_cons_zero, List.set_cons_succ, i64_w, i32_w]
    rfl
   refine pu 5 (some 20) (bts 10 63) (any_of HT_.out (by kernel_rfl)) ?_
   refine pu 6 (some 26) (bts 10 127) (any_of HT_.out (by kernel_rfl)) ?_
   refine pu 7 (some 27) (bts 10 255) (any_of HT_.out (by kernel_rfl)) ?_
   refine pu 8 (some 7) (bts 10 511) (any_of HT_.out (by kernel_rfl)) ?_
   refine pu 9 (some 8) (bts 10 1023) (any_of HT_.out (by kernel_rfl)) ?_
   refine done_ (done_of HT_.out (by kernel_rfl)) ?_
   obtain ⟨Z29_0, Z29_1, F29_0, F29_1⟩ := cz2 BK998.out
   obtain ⟨Z30_0, Z30_1, F30_0, F30_1⟩ := cz2 BK999.out
   try go_wp2_with (first | ((with_reducible refine gate_callee (f := 83) rfl ?_); refine goesL_ (some 39) rfl rfl Tryz.func83 (by kernel_rfl) rfl #[.int .i64 ji8] rfl (by (try simp only [List.map_toArray, List.map_cons, List.map_nil]); first | done | (simp only [hji8]; rfl) | rfl | (simp only [List.length_drop, List.length_take]; rfl)) ?_; (with_reducible refine (deci_power.calls k ji8 t1009 _ A9.out).mono ?_); rintro e w' ⟨rfl, ⟨nd, rfl⟩⟩; refine ⟨_, rfl, ?_⟩; (try (rw [drewN_self w28]; generalize hq_ : World.drewN w28 _ = w28; have n0_ : Aside0 (Kd.R k23 23 w28 w.heap.size (fun k_ => k_ ≠ gb998 ∧ k_ ≠ gb999 ∧ k_ ≠ gb1000) (.slice Ao24 y1001.length co24) y1001) := ⟨by rw [← hq_]; exact (by (with_reducible repeat (first | apply Kd.R_alloc | apply Kd.R_drewN | apply Kd.R_drew)); exact Kd.R_mono HO1003.out (fun _ hk => ⟨hk.1.1.2, ⟨hk.1.2, hk.2⟩⟩))⟩; have n1_ : Aside0 (w28.heap[gb1000]? = some (.cells #[.int .i64 0, .int .i64 0] 23 (0, 0))) := ⟨by rw [← hq_]; exact (bk BK1000.out)⟩; have n2_ : Aside0 (w28.heap[gb998]? = some (.cells #[.int .i64 a0_0, .int .i64 a0_1] 23 (0, 0))) := ⟨by rw [← hq_]; exact (bk BK998.out)⟩; have n3_ : Aside0 (w28.heap[gb999]? = some (.cells #[.int .i64 a1_0, .int .i64 a1_1] 23 (0, 0))) := ⟨by rw [← hq_]; exact (bk BK999.out)⟩; have n4_ : Aside0 (Below w.heap.size w w28) := ⟨by rw [← hq_]; exact (bz HB.out)⟩; clear HO1003 BK1000 BK998 BK999 HB hq_; have HO1003 := n0_; have BK1000 := n1_; have BK998 := n2_; have BK999 := n3_; have HB := n4_; clear n0_ n1_ n2_ n3_ n4_)); (try (have hcu998_0 : w28.cell? ⟨gb998, 0, none⟩ = some (.int .i64 a0_0) := (blk_cell BK998.out 0).trans rfl)); (try (have hcu998_1 : w28.cell? ⟨gb998, 1, none⟩ = some (.int .i64 a0_1) := (blk_cell BK998.out 1).trans rfl)); (try (have hcu999_0 : w28.cell? ⟨gb999, 0, none⟩ = some (.int .i64 a1_0) := (blk_cell BK999.out 0).trans rfl)); (try (have hcu999_1 : w28.cell? ⟨gb999, 1, none⟩ = some (.int .i64 a1_1) := (blk_cell BK999.out 1).trans rfl)); (try (have hcu1000_0 : w28.cell? ⟨gb1000, 0, none⟩ = some (.int .i64 0) := (blk_cell BK1000.out 0).trans rfl)); (try (have hcu1000_1 : w28.cell? ⟨gb1000, 1, none⟩ = some (.int .i64 0) := (blk_cell BK1000.out 1).trans rfl))) | ((with_reducible refine gate_callee (f := 96) rfl ?_); refine gl_ (some 40) Tryz.func96 (by kernel_rfl) #[.int .u64 t1007, .int .u64 t1008, .int .u64 t1009] rfl ?_; (with_reducible refine (deci_even.calls k t1007 t1008 t1009 t1010 true _ A10.out).mono ?_); rintro e w' ⟨rfl, ⟨nd, rfl⟩⟩; refine ⟨_, rfl, ?_⟩; (try (rw [drewN_self w28]; generalize hq_ : World.drewN w28 _ = w28; have n0_ : Aside0 (Kd.R k23 23 w28 w.heap.size (fun k_ => k_ ≠ gb998 ∧ k_ ≠ gb999 ∧ k_ ≠ gb1000) (.slice Ao24 y1001.length co24) y1001) := ⟨by rw [← hq_]; exact (by (with_reducible repeat (first | apply Kd.R_alloc | apply Kd.R_drewN | apply Kd.R_drew)); exact Kd.R_mono HO1003.out (fun _ hk => ⟨hk.1.1.2, ⟨hk.1.2, hk.2⟩⟩))⟩; have n1_ : Aside0 (w28.heap[gb1000]? = some (.cells #[.int .i64 0, .int .i64 0] 23 (0, 0))) := ⟨by rw [← hq_]; exact (bk BK1000.out)⟩; have n2_ : Aside0 (w28.heap[gb998]? = some (.cells #[.int .i64 a0_0, .int .i64 a0_1] 23 (0, 0))) := ⟨by rw [← hq_]; exact (bk BK998.out)⟩; have n3_ : Aside0 (w28.heap[gb999]? = some (.cells #[.int .i64 a1_0, .int .i64 a1_1] 23 (0, 0))) := ⟨by rw [← hq_]; exact (bk BK999.out)⟩; have n4_ : Aside0 (Below w.heap.size w w28) := ⟨by rw [← hq_]; exact (bz HB.out)⟩; clear HO1003 BK1000 BK998 BK999 HB hq_; have HO1003 := n0_; have BK1000 := n1_; have BK998 := n2_; have BK999 := n3_; have HB := n4_; clear n0_ n1_ n2_ n3_ n4_)); (try (have hcu998_0 : w28.cell? ⟨gb998, 0, none⟩ = some (.int .i64 a0_0) := (blk_cell BK998.out 0).trans rfl)); (try (have hcu998_1 : w28.cell? ⟨gb998, 1, none⟩ = some (.int .i64 a0_1) := (blk_cell BK998.out 1).trans rfl)); (try (have hcu999_0 : w28.cell? ⟨gb999, 0, none⟩ = some (.int .i64 a1_0) := (blk_cell BK999.out 0).trans rfl)); (try (have hcu999_1 : w28.cell? ⟨gb999, 1, none⟩ = some (.int .i64 a1_1) := (blk_cell BK999.out 1).trans rfl)); (try (have hcu1000_0 : w28.cell? ⟨gb1000, 0, none⟩ = some (.int .i64 0) := (blk_cell BK1000.out 0).trans rfl)); (try (have hcu1000_1 : w28.cell? ⟨gb1000, 1, none⟩ = some (.int .i64 0) := (blk_cell BK1000.out 1).trans rfl))) | ((with_reducible refine gate_callee (f := 45) rfl ?_); refine goesL_ (some 57) rfl rfl Tryz.func45 (by kernel_rfl) rfl #[.agg #[.int .u64 t1010, .int .i64 ji12], .bool ((decide (a0_0 < 0)) != (decide (a1_0 < 0)))] rfl (by (try simp only [List.map_toArray, List.map_cons, List.map_nil]); first | done | (simp only [hji12]; rfl) | rfl | (simp only [List.length_drop, List.length_take]; rfl)) ?_; (with_reducible refine (deci_form_dec.calls k t1010 ji12 ((decide (a0_0 < 0)) != (decide (a1_0 < 0))) t1012 t1013 t1014 _ A13.out).mono ?_); rintro e w31 ⟨rfl, hb⟩; refine ⟨_, rfl, ?_⟩; replace HO1003 := am (Kd.R_below (rr HO1003.out) hb); replace BK998 := kb BK998 hb; replace BK999 := kb BK999 hb; replace BK1000 := kb BK1000 hb; replace HB := sb HB hb; clear hb; obtain ⟨Z32_0, Z32_1, F32_0, F32_1⟩ := cz2 BK1000.out))
   refine bodyPost_ret (results_ct rfl _ _ gb1000 23 #[.int .i64 t1012, .int .i64 t1013] (0, 0) _ rfl (bp BK1000.out) Tryz.underlying23 rfl (by kernel_rfl)) rfl ?_
   exact ⟨by first | rfl | (simp [errW_none, errW_some] <;> rfl) | (simp only [← hji8, ← hji12]; first | rfl | (simp [errW_none, errW_some] <;> rfl)) | (simp [*, errW_none, errW_some] <;> rfl), bz HB.out⟩
  replace c11 := Bool.eq_false_iff.mpr c11
  subst c11
  replace H := iff_ H
  exact absurd H (by simp)
 rw [if_neg c4] at H
 exact absurd H (by simp)
end Go.Proofs.YtgkemhgihbfmmaaGreatDoor.PA
end
section
namespace Go.Proofs.YtgkemhgihbfmmaaGreatDoor.PA
open Go.RowKit Go.Proofs.YtgkemhgihbfmmaaGreatDoorW.PrintWords Go.Proofs.YtgkemhgihbfmmaaGreatDoorW.PrintLast Go.Proofs.YtgkemhgihbfmmaaGreatDoorW.PrintMore
attribute [local go_sem] max2_int min2_int max_two min_two max_three min_three max_four min_four isSome_set str_gtr
set_option linter.unusedVariables false
set_option linter.unusedSimpArgs false
def calc_reckon.j0 : Nat → Int → Bool → Int → Int → Int → ByteArray → Int → Int → Int → Int → ByteArray → Int → Option (Int × Int × Int × ByteArray × Int)
 | 0, _, _, _, _, _, _, _, _, _, _, _, _ => none
 | k + 1, x0, x16, x1016000, x1016001, x1016002, x1016003, x1016004, x1017000, x1017001, x1017002, x1017003, x1017004 => if x16 = true then (none) else (if x0 = 5 then (none) else (if x0 = 4 then (none) else (if x0 = 6 then ((deci_Mul.f k x1016001 x1016002 x1017001 x1017002).bind fun bt1019 => (if bt1019.2.2 = 0 then (some (1, bt1019.1, bt1019.2.1, (⟨#[]⟩ : ByteArray), 0)) else (none))) else (none))))
def calc_reckon.f (k : Nat) (a0 a1_0 a1_1 a1_2 : Int) (a1_3 : ByteArray) (a1_4 a2_0 a2_1 a2_2 : Int) (a2_3 : ByteArray) (a2_4 : Int) : Option (Int × Int × Int × ByteArray × Int) := if a1_0 = 1 then (calc_reckon.j0 k a0 (a2_0 != 1) a1_0 a1_1 a1_2 a1_3 a1_4 a2_0 a2_1 a2_2 a2_3 a2_4) else (calc_reckon.j0 k a0 true a1_0 a1_1 a1_2 a1_3 a1_4 a2_0 a2_1 a2_2 a2_3 a2_4)
theorem calc_reckon.mono_l : ∀ k, (∀ y0 y1 y2 y3 y4 y5 y6 y7 y8 y9 y10 y11, LeO (calc_reckon.j0 k y0 y1 y2 y3 y4 y5 y6 y7 y8 y9 y10 y11) (calc_reckon.j0 (k + 1) y0 y1 y2 y3 y4 y5 y6 y7 y8 y9 y10 y11))
 | 0 => fun _ _ _ _ _ _ _ _ _ _ _ _ r h => by simp [calc_reckon.j0] at h
 | k + 1 => by
  have ih0 := calc_reckon.mono_l k
  ·intro y0 y1 y2 y3 y4 y5 y6 y7 y8 y9 y10 y11
   unfold calc_reckon.j0
   have q0 := @deci_Mul.mono; exact lmo
theorem calc_reckon.mono : ∀ a0 a1 a2 a3 a4 a5 a6 a7 a8 a9 a10 k, LeO (calc_reckon.f k a0 a1 a2 a3 a4 a5 a6 a7 a8 a9 a10) (calc_reckon.f (k + 1) a0 a1 a2 a3 a4 a5 a6 a7 a8 a9 a10) := by
 intro a0 a1 a2 a3 a4 a5 a6 a7 a8 a9 a10 k
 have ih0 := calc_reckon.mono_l k
 unfold calc_reckon.f
 have q0 := @deci_Mul.mono; exact lmo
set_option maxHeartbeats 8000000 in
set_option maxRecDepth 100000 in
theorem calc_reckon.calls (k : Nat) (a0 a1_0 a1_1 a1_2 : Int) (a1_3 : ByteArray) (a1_4 a2_0 a2_1 a2_2 : Int) (a2_3 : ByteArray) (a2_4 r1 r2 r3 : Int) (r4 : ByteArray) (r5 : Int) (w : World) (hT : Tabs w) (h : calc_reckon.f k a0 a1_0 a1_1 a1_2 a1_3 a1_4 a2_0 a2_1 a2_2 a2_3 a2_4 = some (r1, r2, r3, r4, r5)) :
  Calls Tryz.prog 79 #[.int .i64 a0, .agg #[.int .i64 a1_0, .int .i64 a1_1, .int .i64 a1_2, .string a1_3, .int .i64 a1_4], .agg #[.int .i64 a2_0, .int .i64 a2_1, .int .i64 a2_2, .string a2_3, .int .i64 a2_4]] w fun e w' => e = .returned (.agg #[.int .i64 r1, .int .i64 r2, .int .i64 r3, .string r4, .int .i64 r5]) ∧ Below w.heap.size w w' := by
 have hu25 := Tryz.underlying25
 have hu23 := Tryz.underlying23
 have HT := am hT; have HZ := am hT.null.pos; obtain ⟨hn0_, hn1_, hn2_, hn3_, hn4_⟩ := hT.null
 clear hT
 have HB := am (Below.refl w.heap.size w)
 have H : (if a1_0 = 1 then (calc_reckon.j0 k a0 (a2_0 != 1) a1_0 a1_1 a1_2 a1_3 a1_4 a2_0 a2_1 a2_2 a2_3 a2_4) else (calc_reckon.j0 k a0 true a1_0 a1_1 a1_2 a1_3 a1_4 a2_0 a2_1 a2_2 a2_3 a2_4)) = some (r1, r2, r3, r4, r5) := h
 clear h
 have HC4 := am H
 clear H
 go_enter Tryz.func79, Tryz.ntmps79
 go_upto_region 1 with (first | ((with_reducible refine gate_dst (N := 4) rfl ?_); refine bev (#[.int .i64 a1_0, .int .i64 a1_1, .int .i64 a1_2, .string a1_3, .int .i64 a1_4]) 25 ?_; intro gb1015 hg w5 hbox hb; have BK1015 := am (hbox); have GW1015 := gs hg HB; have hz1015 := ne0 HZ.out GW1015.out; have GE1015 := GW1015; replace HB := sb HB hb; obtain ⟨_, _, _, _, _⟩ := nz HT HB; clear hb hbox hg) | ((with_reducible refine gate_dst (N := 5) rfl ?_); refine bev (#[.int .i64 a2_0, .int .i64 a2_1, .int .i64 a2_2, .string a2_3, .int .i64 a2_4]) 25 ?_; intro gb1016 hg w6 hbox hb; have BK1016 := am (hbox); have GW1016 := gs hg HB; have hz1016 := ne0 HZ.out GW1016.out; have GE1016 := GW1016; replace HB := sb HB hb; obtain ⟨_, _, _, _, _⟩ := nz HT HB; have NB1015_1016 := na hg BK1015; have NB1016_1015 := nb hg BK1015; replace BK1015 := kb BK1015 hb; clear hb hbox hg) | ((with_reducible refine gate_dst (N := 6) rfl ?_); refine bev (#[.int .i64 0, .int .i64 0, .int .i64 0, .string (⟨#[]⟩ : ByteArray), .int .i64 0]) 25 ?_; intro gb1017 hg w7 hbox hb; have BK1017 := am (hbox); have GW1017 := gs hg HB; have hz1017 := ne0 HZ.out GW1017.out; have GE1017 := GW1017; replace HB := sb HB hb; obtain ⟨_, _, _, _, _⟩ := nz HT HB; have NB1015_1017 := na hg BK1015; have NB1017_1015 := nb hg BK1015; replace BK1015 := kb BK1015 hb; have NB1016_1017 := na hg BK1016; have NB1017_1016 := nb hg BK1016; replace BK1016 := kb BK1016 hb; clear hb hbox hg))
 (try simp only [Act.put, List.setIfInBounds_toArray, List.set_cons_zero, List.set_cons_succ])
 go_cut [16] (fun v16 wc => ∃ (kq : Nat) (x16_3 : Bool), v16 = .bool x16_3 ∧ Aside0 (calc_reckon.j0 kq a0 x16_3 a1_0 a1_1 a1_2 a1_3 a1_4 a2_0 a2_1 a2_2 a2_3 a2_4 = some (r1, r2, r3, r4, r5)) ∧ Aside0 (kq ≤ k) ∧ Aside0 (wc.heap[gb1015]? = some (.cells #[.int .i64 a1_0, .int .i64 a1_1, .int .i64 a1_2, .string a1_3, .int .i64 a1_4] 25 (0, 0))) ∧ Aside0 (wc.heap[gb1016]? = some (.cells #[.int .i64 a2_0, .int .i64 a2_1, .int .i64 a2_2, .string a2_3, .int .i64 a2_4] 25 (0, 0))) ∧ Aside0 (wc.heap[gb1017]? = some (.cells #[.int .i64 0, .int .i64 0, .int .i64 0, .string (⟨#[]⟩ : ByteArray), .int .i64 0] 25 (0, 0))) ∧ Aside0 (Below w.heap.size w wc))
 case first =>
  have H := HC4.out
  clear HC4
  by_cases c8 : a1_0 = 1
  ·replace H := ipe c8 H
   obtain ⟨H, c8b0, c8b1⟩ := H
   clear c8
   (first | rw [c8b0] | (simp only [i64_w, i32_w]; rw [c8b0]) | skip)
   have H' := am H
   clear H
   have hnb9 := NB1015_1016.out
   have hnc9 := NB1016_1015.out
   have hnb10 := NB1015_1017.out
   have hnc10 := NB1017_1015.out
   obtain ⟨Z11_0, Z11_1, Z11_2, Z11_3, Z11_4, F11_0, F11_1, F11_2, F11_3, F11_4⟩ := cz5 BK1015.out
   have hnb12 := NB1016_1017.out
   have hnc12 := NB1017_1016.out
   obtain ⟨Z13_0, Z13_1, Z13_2, Z13_3, Z13_4, F13_0, F13_1, F13_2, F13_3, F13_4⟩ := cz5 BK1016.out
   go_wp2
   go_meet
   case rel => exact ⟨_, ((a2_0 != 1)), sz, H', ⟨oz⟩, ⟨bk BK1015.out⟩, ⟨bk BK1016.out⟩, ⟨bk BK1017.out⟩, ⟨bz HB.out⟩⟩
  replace H := ine c8 H
  obtain ⟨H, c8b0, c8b1⟩ := H
  (first | rw [c8b0] | (simp only [i64_w, i32_w]; rw [c8b0]) | skip)
  have H' := am H
  clear H
  have hnb14 := NB1015_1016.out
  have hnc14 := NB1016_1015.out
  have hnb15 := NB1015_1017.out
  have hnc15 := NB1017_1015.out
  obtain ⟨Z16_0, Z16_1, Z16_2, Z16_3, Z16_4, F16_0, F16_1, F16_2, F16_3, F16_4⟩ := cz5 BK1015.out
  go_wp2
  go_meet
  case rel => exact ⟨_, (true), sz, H', ⟨oz⟩, ⟨bk BK1015.out⟩, ⟨bk BK1016.out⟩, ⟨bk BK1017.out⟩, ⟨bz HB.out⟩⟩
 case rest =>
  clear HC4
  skip
  obtain ⟨kq, x16_3, rfl, HA, HJ3, BK1015, BK1016, BK1017, HB⟩ := hcut; obtain ⟨_, _, _, _, _⟩ := nz HT HB
  cases kq with
  | zero => exact absurd HA.out (by simp [calc_reckon.j0])
  | succ kj3 =>
   have H := HA.out
   clear HA
   simp only [calc_reckon.j0] at H
   by_cases c17 : x16_3 = true
   ·subst c17
    (try simp only [Bool.not_true, Bool.not_false])
    replace H := ift H
    exact absurd H (by simp)
   replace c17 := Bool.eq_false_iff.mpr c17
   subst c17
   (try simp only [Bool.not_true, Bool.not_false])
   replace H := iff_ H
   have HC18 := am H
   clear H
   go_upto_if 19 with (first | ((with_reducible refine gate_dst (N := 7) rfl ?_); refine bev (#[.int .i64 0, .int .i64 0]) 23 ?_; intro gb1018 hg w19 hbox hb; have BK1018 := am (hbox); have GW1018 := gs hg HB; have hz1018 := ne0 HZ.out GW1018.out; have GE1018 := GW1018; replace HB := sb HB hb; obtain ⟨_, _, _, _, _⟩ := nz HT HB; have NB1015_1018 := na hg BK1015; have NB1018_1015 := nb hg BK1015; replace BK1015 := kb BK1015 hb; have NB1016_1018 := na hg BK1016; have NB1018_1016 := nb hg BK1016; replace BK1016 := kb BK1016 hb; have NB1017_1018 := na hg BK1017; have NB1018_1017 := nb hg BK1017; replace BK1017 := kb BK1017 hb; clear hb hbox hg))
   (try simp only [Act.put, List.setIfInBounds_toArray, List.set_cons_zero, List.set_cons_succ])
   have H := HC18.out
   clear HC18
   by_cases c20 : a0 = 5
   ·replace H := ipe c20 H
    obtain ⟨H, c20b0, c20b1⟩ := H
    clear c20
    (first | rw [c20b0] | (simp only [i64_w, i32_w]; rw [c20b0]) | skip)
    exact absurd H (by simp)
   replace H := ine c20 H
   obtain ⟨H, c20b0, c20b1⟩ := H
   (first | rw [c20b0] | (simp only [i64_w, i32_w]; rw [c20b0]) | skip)
   by_cases c21 : a0 = 4
   ·replace H := ipe c21 H
    obtain ⟨H, c21b0, c21b1⟩ := H
    clear c21
    exact absurd H (by simp)
   replace H := ine c21 H
   obtain ⟨H, c21b0, c21b1⟩ := H
   by_cases c22 : a0 = 6
   ·replace H := ipe c22 H
    obtain ⟨H, c22b0, c22b1⟩ := H
    clear c22
    replace H := obe3 H
    obtain ⟨t1019, t1020, t1021, A23, H⟩ := H
    by_cases c24 : t1021 = 0
    ·replace H := ipe c24 H
     obtain ⟨H, c24b0, c24b1⟩ := H
     clear c24
     simp only [Option.some.injEq, Prod.mk.injEq] at H
     obtain ⟨rfl, rfl, rfl, rfl, rfl⟩ := H
     have hnb25 := NB1015_1016.out
     have hnc25 := NB1016_1015.out
     have hnb26 := NB1015_1017.out
     have hnc26 := NB1017_1015.out
     have hnb27 := NB1015_1018.out
     have hnc27 := NB1018_1015.out
     obtain ⟨Z28_0, Z28_1, Z28_2, Z28_3, Z28_4, F28_0, F28_1, F28_2, F28_3, F28_4⟩ := cz5 BK1015.out
     have hnb29 := NB1016_1017.out
     have hnc29 := NB1017_1016.out
     have hnb30 := NB1016_1018.out
     have hnc30 := NB1018_1016.out
     obtain ⟨Z31_0, Z31_1, Z31_2, Z31_3, Z31_4, F31_0, F31_1, F31_2, F31_3, F31_4⟩ := cz5 BK1016.out
     go_wp2_with (first | ((with_reducible refine gate_callee (f := 119) rfl ?_); refine gl_ (some 45) Tryz.func119 (by kernel_rfl) #[.agg #[.int .i64 a1_1, .int .i64 a1_2], .agg #[.int .i64 a2_1, .int .i64 a2_2]] rfl ?_; (with_reducible refine (deci_Mul.calls kj3 a1_1 a1_2 a2_1 a2_2 t1019 t1020 t1021 _ A23.out).mono ?_); rintro e w32 ⟨rfl, hb⟩; refine ⟨_, rfl, ?_⟩; replace BK1015 := kb BK1015 hb; replace BK1016 := kb BK1016 hb; replace BK1017 := kb BK1017 hb; replace BK1018 := kb BK1018 hb; replace HB := sb HB hb; obtain ⟨_, _, _, _, _⟩ := nz HT HB; clear hb; have hnb33 := NB1018_1017.out; have hnc33 := NB1017_1018.out; obtain ⟨Z34_0, Z34_1, F34_0, F34_1⟩ := cz2 BK1018.out; obtain ⟨Z35_0, Z35_1, Z35_2, Z35_3, Z35_4, F35_0, F35_1, F35_2, F35_3, F35_4⟩ := cz5 BK1017.out))
     refine bodyPost_ret (results_cell_row rfl _ _ gb1017 25 #[.int .i64 1, .int .i64 t1019, .int .i64 t1020, .string (⟨#[]⟩ : ByteArray), .int .i64 0] (0, 0) _ rfl (bp BK1017.out) Tryz.underlying25 rfl (by kernel_rfl)) rfl ?_
     exact ⟨az, bz HB.out⟩
    rw [if_neg c24] at H
    exact absurd H (by simp)
   replace H := ine c22 H
   obtain ⟨H, c22b0, c22b1⟩ := H
   exact absurd H (by simp)
end Go.Proofs.YtgkemhgihbfmmaaGreatDoor.PA
end
section
namespace Go.Proofs.YtgkemhgihbfmmaaGreatDoor.PA
open Go.RowKit Go.Proofs.YtgkemhgihbfmmaaGreatDoorW.PrintWords Go.Proofs.YtgkemhgihbfmmaaGreatDoorW.PrintLast Go.Proofs.YtgkemhgihbfmmaaGreatDoorW.PrintMore
attribute [local go_sem] max2_int min2_int max_two min_two max_three min_three max_four min_four isSome_set str_gtr
set_option linter.unusedVariables false
set_option linter.unusedSimpArgs false
attribute [local go_sem high] eqA25
def logic_Not.f (a0_0 a0_1 a0_2 : Int) (a0_3 : ByteArray) (a0_4 : Int) : Option (Int × Int × Int × ByteArray × Int) := (logic_Truth.f true).bind fun bt1024 => (if (a0_0 == bt1024.1 && ((a0_1 == bt1024.2.1 && (a0_2 == bt1024.2.2.1)) && (a0_3.toList == bt1024.2.2.2.1.toList && (a0_4 == bt1024.2.2.2.2)))) = true then ((logic_Truth.f false).bind fun bt1029 => (some (bt1029.1, bt1029.2.1, bt1029.2.2.1, bt1029.2.2.2.1, bt1029.2.2.2.2))) else ((logic_Truth.f false).bind fun bt1034 => (if (a0_0 == bt1034.1 && ((a0_1 == bt1034.2.1 && (a0_2 == bt1034.2.2.1)) && (a0_3.toList == bt1034.2.2.2.1.toList && (a0_4 == bt1034.2.2.2.2)))) = true then ((logic_Truth.f true).bind fun bt1039 => (some (bt1039.1, bt1039.2.1, bt1039.2.2.1, bt1039.2.2.2.1, bt1039.2.2.2.2))) else (some (0, 0, 0, (⟨#[]⟩ : ByteArray), 0)))))
set_option maxHeartbeats 8000000 in
set_option maxRecDepth 100000 in
theorem logic_Not.calls (a0_0 a0_1 a0_2 : Int) (a0_3 : ByteArray) (a0_4 r1 r2 r3 : Int) (r4 : ByteArray) (r5 : Int) (w : World) (h : logic_Not.f a0_0 a0_1 a0_2 a0_3 a0_4 = some (r1, r2, r3, r4, r5)) :
  Calls Tryz.prog 80 #[.agg #[.int .i64 a0_0, .int .i64 a0_1, .int .i64 a0_2, .string a0_3, .int .i64 a0_4]] w fun e w' => e = .returned (.agg #[.int .i64 r1, .int .i64 r2, .int .i64 r3, .string r4, .int .i64 r5]) ∧ Below w.heap.size w w' := by
 have hu25 := Tryz.underlying25
 have HB := am (Below.refl w.heap.size w)
 have H : ((logic_Truth.f true).bind fun bt1024 => (if (a0_0 == bt1024.1 && ((a0_1 == bt1024.2.1 && (a0_2 == bt1024.2.2.1)) && (a0_3.toList == bt1024.2.2.2.1.toList && (a0_4 == bt1024.2.2.2.2)))) = true then ((logic_Truth.f false).bind fun bt1029 => (some (bt1029.1, bt1029.2.1, bt1029.2.2.1, bt1029.2.2.2.1, bt1029.2.2.2.2))) else ((logic_Truth.f false).bind fun bt1034 => (if (a0_0 == bt1034.1 && ((a0_1 == bt1034.2.1 && (a0_2 == bt1034.2.2.1)) && (a0_3.toList == bt1034.2.2.2.1.toList && (a0_4 == bt1034.2.2.2.2)))) = true then ((logic_Truth.f true).bind fun bt1039 => (some (bt1039.1, bt1039.2.1, bt1039.2.2.1, bt1039.2.2.2.1, bt1039.2.2.2.2))) else (some (0, 0, 0, (⟨#[]⟩ : ByteArray), 0)))))) = some (r1, r2, r3, r4, r5) := h
 clear h
 replace H := obe5 H
 obtain ⟨t1024, t1025, t1026, t1027, t1028, A2, H⟩ := H
 have HC3 := am H
 clear H
 go_enter Tryz.func80, Tryz.ntmps80
 go_upto_if 4 with (first | ((with_reducible refine gate_dst (N := 1) rfl ?_); refine bev (#[.int .i64 a0_0, .int .i64 a0_1, .int .i64 a0_2, .string a0_3, .int .i64 a0_4]) 25 ?_; intro gb1022 hg w4 hbox hb; have BK1022 := am (hbox); have GW1022 := gs hg HB; have GE1022 := GW1022; replace HB := sb HB hb; clear hb hbox hg) | ((with_reducible refine gate_dst (N := 2) rfl ?_); refine bev (#[.int .i64 0, .int .i64 0, .int .i64 0, .string (⟨#[]⟩ : ByteArray), .int .i64 0]) 25 ?_; intro gb1023 hg w5 hbox hb; have BK1023 := am (hbox); have GW1023 := gs hg HB; have GE1023 := GW1023; replace HB := sb HB hb; have NB1022_1023 := na hg BK1022; have NB1023_1022 := nb hg BK1022; replace BK1022 := kb BK1022 hb; clear hb hbox hg; have hnb6 := NB1022_1023.out; have hnc6 := NB1023_1022.out; obtain ⟨Z7_0, Z7_1, Z7_2, Z7_3, Z7_4, F7_0, F7_1, F7_2, F7_3, F7_4⟩ := cz5 BK1022.out) | ((with_reducible refine gate_callee (f := 59) rfl ?_); refine gl_ (some 5) Tryz.func59 (by kernel_rfl) #[.bool true] rfl ?_; (with_reducible refine (logic_Truth.calls true t1024 t1025 t1026 t1027 t1028 _ A2.out).mono ?_); rintro e w8 ⟨rfl, hb⟩; refine ⟨_, rfl, ?_⟩; replace BK1022 := kb BK1022 hb; replace BK1023 := kb BK1023 hb; replace HB := sb HB hb; clear hb))
 (try simp only [Act.put, List.setIfInBounds_toArray, List.set_cons_zero, List.set_cons_succ])
 have H := HC3.out
 clear HC3
 clear Z7_0 Z7_1 Z7_2 Z7_3 Z7_4 F7_0 F7_1 F7_2 F7_3 F7_4
 by_cases c9 : (a0_0 == t1024 && ((a0_1 == t1025 && (a0_2 == t1026)) && (a0_3.toList == t1027.toList && (a0_4 == t1028)))) = true
 ·rw [if_pos c9] at H
  have c9b0 : (a0_0 == t1024 && ((a0_1 == t1025 && (a0_2 == t1026)) && (a0_3.toList == t1027.toList && (a0_4 == t1028)))) = true := c9
  (try (have c9b1 : decide (a0_0 = t1024 && ((a0_1 == t1025 && (a0_2 == t1026)) && (a0_3.toList == t1027.toList && (a0_4 == t1028)))) = true := by simpa using c9))
  (try (have c9b2 : (a0_0 == t1024 && ((a0_1 == t1025 && (a0_2 == t1026)) && (a0_3.toList == t1027.toList && (a0_4 == t1028)))) = true := by simpa using c9))
  clear c9
  (first | rw [c9b0] | (simp only [i64_w, i32_w]; rw [c9b0]) | skip)
  replace H := obe5 H
  obtain ⟨t1029, t1030, t1031, t1032, t1033, A10, H⟩ := H
  simp only [Option.some.injEq, Prod.mk.injEq] at H
  obtain ⟨rfl, rfl, rfl, rfl, rfl⟩ := H
  go_wp2_with (first | ((with_reducible refine gate_callee (f := 59) rfl ?_); refine gl_ (some 7) Tryz.func59 (by kernel_rfl) #[.bool false] rfl ?_; (with_reducible refine (logic_Truth.calls false t1029 t1030 t1031 t1032 t1033 _ A10.out).mono ?_); rintro e w11 ⟨rfl, hb⟩; refine ⟨_, rfl, ?_⟩; replace BK1022 := kb BK1022 hb; replace BK1023 := kb BK1023 hb; replace HB := sb HB hb; clear hb; have hnb12 := NB1023_1022.out; have hnc12 := NB1022_1023.out; obtain ⟨Z13_0, Z13_1, Z13_2, Z13_3, Z13_4, F13_0, F13_1, F13_2, F13_3, F13_4⟩ := cz5 BK1023.out))
  refine bodyPost_ret (results_cell_row rfl _ _ gb1023 25 #[.int .i64 t1029, .int .i64 t1030, .int .i64 t1031, .string t1032, .int .i64 t1033] (0, 0) _ rfl (bp BK1023.out) Tryz.underlying25 rfl (by kernel_rfl)) rfl ?_
  exact ⟨az, bz HB.out⟩
 rw [if_neg c9] at H
 have c9b0 : (a0_0 == t1024 && ((a0_1 == t1025 && (a0_2 == t1026)) && (a0_3.toList == t1027.toList && (a0_4 == t1028)))) = false := by simpa using c9
 (try (have c9b1 : decide (a0_0 = t1024 && ((a0_1 == t1025 && (a0_2 == t1026)) && (a0_3.toList == t1027.toList && (a0_4 == t1028)))) = false := by simpa using c9))
 (try (have c9b2 : (a0_0 == t1024 && ((a0_1 == t1025 && (a0_2 == t1026)) && (a0_3.toList == t1027.toList && (a0_4 == t1028)))) = false := by simpa using c9))
 (try (have c9b3 : ¬ (a0_0 = t1024 && ((a0_1 == t1025 && (a0_2 == t1026)) && (a0_3.toList == t1027.toList && (a0_4 == t1028)))) := by simpa using c9))
 clear c9
 (first | rw [c9b0] | (simp only [i64_w, i32_w]; rw [c9b0]) | skip)
 replace H := obe5 H
 obtain ⟨t1034, t1035, t1036, t1037, t1038, A14, H⟩ := H
 have HC15 := am H
 clear H
 go_upto_if 8 with (first | ((with_reducible refine gate_callee (f := 59) rfl ?_); refine gl_ (some 9) Tryz.func59 (by kernel_rfl) #[.bool false] rfl ?_; (with_reducible refine (logic_Truth.calls false t1034 t1035 t1036 t1037 t1038 _ A14.out).mono ?_); rintro e w16 ⟨rfl, hb⟩; refine ⟨_, rfl, ?_⟩; replace BK1022 := kb BK1022 hb; replace BK1023 := kb BK1023 hb; replace HB := sb HB hb; clear hb))
 (try simp only [Act.put, List.setIfInBounds_toArray, List.set_cons_zero, List.set_cons_succ])
 have H := HC15.out
 clear HC15
 by_cases c17 : (a0_0 == t1034 && ((a0_1 == t1035 && (a0_2 == t1036)) && (a0_3.toList == t1037.toList && (a0_4 == t1038)))) = true
 ·rw [if_pos c17] at H
  have c17b0 : (a0_0 == t1034 && ((a0_1 == t1035 && (a0_2 == t1036)) && (a0_3.toList == t1037.toList && (a0_4 == t1038)))) = true := c17
  (try (have c17b1 : decide (a0_0 = t1034 && ((a0_1 == t1035 && (a0_2 == t1036)) && (a0_3.toList == t1037.toList && (a0_4 == t1038)))) = true := by simpa using c17))
  (try (have c17b2 : (a0_0 == t1034 && ((a0_1 == t1035 && (a0_2 == t1036)) && (a0_3.toList == t1037.toList && (a0_4 == t1038)))) = true := by simpa using c17))
  clear c17
  (first | rw [c17b0] | (simp only [i64_w, i32_w]; rw [c17b0]) | skip)
  replace H := obe5 H
  obtain ⟨t1039, t1040, t1041, t1042, t1043, A18, H⟩ := H
  simp only [Option.some.injEq, Prod.mk.injEq] at H
  obtain ⟨rfl, rfl, rfl, rfl, rfl⟩ := H
  go_wp2_with (first | ((with_reducible refine gate_callee (f := 59) rfl ?_); refine gl_ (some 11) Tryz.func59 (by kernel_rfl) #[.bool true] rfl ?_; (with_reducible refine (logic_Truth.calls true t1039 t1040 t1041 t1042 t1043 _ A18.out).mono ?_); rintro e w19 ⟨rfl, hb⟩; refine ⟨_, rfl, ?_⟩; replace BK1022 := kb BK1022 hb; replace BK1023 := kb BK1023 hb; replace HB := sb HB hb; clear hb; have hnb20 := NB1023_1022.out; have hnc20 := NB1022_1023.out; obtain ⟨Z21_0, Z21_1, Z21_2, Z21_3, Z21_4, F21_0, F21_1, F21_2, F21_3, F21_4⟩ := cz5 BK1023.out))
  refine bodyPost_ret (results_cell_row rfl _ _ gb1023 25 #[.int .i64 t1039, .int .i64 t1040, .int .i64 t1041, .string t1042, .int .i64 t1043] (0, 0) _ rfl (bp BK1023.out) Tryz.underlying25 rfl (by kernel_rfl)) rfl ?_
  exact ⟨az, bz HB.out⟩
 rw [if_neg c17] at H
 have c17b0 : (a0_0 == t1034 && ((a0_1 == t1035 && (a0_2 == t1036)) && (a0_3.toList == t1037.toList && (a0_4 == t1038)))) = false := by simpa using c17
 (try (have c17b1 : decide (a0_0 = t1034 && ((a0_1 == t1035 && (a0_2 == t1036)) && (a0_3.toList == t1037.toList && (a0_4 == t1038)))) = false := by simpa using c17))
 (try (have c17b2 : (a0_0 == t1034 && ((a0_1 == t1035 && (a0_2 == t1036)) && (a0_3.toList == t1037.toList && (a0_4 == t1038)))) = false := by simpa using c17))
 (try (have c17b3 : ¬ (a0_0 = t1034 && ((a0_1 == t1035 && (a0_2 == t1036)) && (a0_3.toList == t1037.toList && (a0_4 == t1038)))) := by simpa using c17))
 clear c17
 (first | rw [c17b0] | (simp only [i64_w, i32_w]; rw [c17b0]) | skip)
 simp only [Option.some.injEq, Prod.mk.injEq] at H
 obtain ⟨rfl, rfl, rfl, rfl, rfl⟩ := H
 have hnb22 := NB1023_1022.out
 have hnc22 := NB1022_1023.out
 obtain ⟨Z23_0, Z23_1, Z23_2, Z23_3, Z23_4, F23_0, F23_1, F23_2, F23_3, F23_4⟩ := cz5 BK1023.out
 go_wp2
 refine bodyPost_ret (results_cell_row rfl _ _ gb1023 25 #[.int .i64 0, .int .i64 0, .int .i64 0, .string (⟨#[]⟩ : ByteArray), .int .i64 0] (0, 0) _ rfl (bp BK1023.out) Tryz.underlying25 rfl (by kernel_rfl)) rfl ?_
 exact ⟨az, bz HB.out⟩
end Go.Proofs.YtgkemhgihbfmmaaGreatDoor.PA
end
