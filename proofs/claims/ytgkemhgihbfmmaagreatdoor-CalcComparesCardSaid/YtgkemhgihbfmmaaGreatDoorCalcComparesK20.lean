/- Part 21 of the proof for CalcCompares: functions of the program as plain Lean functions, their calls, and what they come to. -/
import Derived.Deep.LoopGhost
import Derived.Test.YtgkemhgihbfmmaaGreatDoorCalcComparesK18
import Derived.Test.YtgkemhgihbfmmaaGreatDoorCalcComparesK19
import Derived.Test.YtgkemhgihbfmmaaGreatDoorCalcComparesK17
set_option linter.unusedVariables false
set_option linter.unusedSimpArgs false
section
namespace Go.Proofs.YtgkemhgihbfmmaaGreatDoor.PA
open Go.RowKit Go.Proofs.YtgkemhgihbfmmaaGreatDoorW.PrintWords Go.Proofs.YtgkemhgihbfmmaaGreatDoorW.PrintLast Go.Proofs.YtgkemhgihbfmmaaGreatDoorW.PrintMore
attribute [local go_sem] max2_int min2_int max_two min_two max_three min_three max_four min_four isSome_set str_gtr
set_option linter.unusedVariables false
set_option linter.unusedSimpArgs false
def expr_Parser_chain.T9 : Bool × List (List Nat × List Nat) := (true, [([], []), ([], []), ([], []), ([1, 2], [1, 2]), ([3], [3]), ([4], [4]), ([], []), ([5, 6], [5, 6]), ([7], [7]), ([], []), ([], []), ([], []), ([], []), ([12], [12]), ([10, 11, 13], [10, 11, 13]), ([9, 14], [9, 14]), ([0, 8, 15, 14], [0, 8, 15]), ([16, 16, 0, 1, 2, 3, 4, 5, 6, 7, 8, 9, 10, 11, 12, 13, 14, 15, 16], [16])])
def expr_Parser_chain.B9 : List Nat := [0, 0, 0, 6, 14, 30, 0, 126, 254, 0, 0, 0, 0, 4096, 15360, 32256, 65535, 131071]
theorem expr_Parser_chain.tab9 : rtab .any (opsOf Tryz.f64 9) = expr_Parser_chain.T9 := by kernel_rfl
theorem expr_Parser_chain.bits9 : waitsOk expr_Parser_chain.T9.2 expr_Parser_chain.B9 = true := by kernel_rfl
set_option maxHeartbeats 8000000 in
set_option maxRecDepth 100000 in
theorem expr_Parser_chain.step (k : Nat) (ih_expr_Parser_prefix : ∀ k', k' < k → ∀ (g : Nat) (s0_0 : List (S136)) (s0_1 s0_2 s0_3 s0_4 s0_5 a1 r1 r2 r3 r4 : Int) (r5 : ByteArray) (r6 : Int) (r7 : ByteArray) (r8 : List (S31)) (r9 r10 r11 r12 r13 : Int) (w0 w : World) (hI : IsS63 w0 w g s0_0 s0_1 s0_2 s0_3 s0_4 s0_5) (hB : Below w0.heap.size w0 w) (h : expr_Parser_prefix.f k' s0_0 s0_1 s0_2 s0_3 s0_4 s0_5 a1 = some (r1, r2, r3, r4, r5, r6, r7, r8, r9, r10, r11, r12, r13)),
  Calls Tryz.prog 109 #[.pointer (some ⟨g, 0, none⟩), .int .i64 a1] w fun e w' => ∃ v7_ : Value, e = .returned (.agg #[.int .i64 r1, .int .i64 r2, .int .i64 r3, .int .i64 r4, .string r5, .int .i64 r6, .string r7, v7_]) ∧ Kd.V k31 31 w' w.heap.size (fun k_ => (w.heap.size ≤ k_)) v7_ r8 ∧ IsS63 w0 w' g s0_0 r9 r10 r11 r12 r13 ∧ Below w0.heap.size w0 w' ∧ KeepBut w w' g none) (ih_expr_Parser_chain : ∀ k', k' < k → ∀ (g : Nat) (s0_0 : List (S136)) (s0_1 s0_2 s0_3 s0_4 s0_5 a1 a2 r1 r2 r3 r4 : Int) (r5 : ByteArray) (r6 : Int) (r7 : ByteArray) (r8 : List (S31)) (r9 r10 r11 r12 r13 : Int) (w0 w : World) (hI : IsS63 w0 w g s0_0 s0_1 s0_2 s0_3 s0_4 s0_5) (hB : Below w0.heap.size w0 w) (h : expr_Parser_chain.f k' s0_0 s0_1 s0_2 s0_3 s0_4 s0_5 a1 a2 = some (r1, r2, r3, r4, r5, r6, r7, r8, r9, r10, r11, r12, r13)),
  Calls Tryz.prog 64 #[.pointer (some ⟨g, 0, none⟩), .int .i64 a1, .int .i64 a2] w fun e w' => ∃ v7_ : Value, e = .returned (.agg #[.int .i64 r1, .int .i64 r2, .int .i64 r3, .int .i64 r4, .string r5, .int .i64 r6, .string r7, v7_]) ∧ Kd.V k31 31 w' w.heap.size (fun k_ => (w.heap.size ≤ k_)) v7_ r8 ∧ IsS63 w0 w' g s0_0 r9 r10 r11 r12 r13 ∧ Below w0.heap.size w0 w' ∧ KeepBut w w' g none) (ih_expr_Parser_Expr : ∀ k', k' < k → ∀ (g : Nat) (s0_0 : List (S136)) (s0_1 s0_2 s0_3 s0_4 s0_5 a1 r1 r2 r3 r4 : Int) (r5 : ByteArray) (r6 : Int) (r7 : ByteArray) (r8 : List (S31)) (r9 r10 r11 r12 r13 : Int) (w0 w : World) (hI : IsS63 w0 w g s0_0 s0_1 s0_2 s0_3 s0_4 s0_5) (hB : Below w0.heap.size w0 w) (h : expr_Parser_Expr.f k' s0_0 s0_1 s0_2 s0_3 s0_4 s0_5 a1 = some (r1, r2, r3, r4, r5, r6, r7, r8, r9, r10, r11, r12, r13)),
  Calls Tryz.prog 31 #[.pointer (some ⟨g, 0, none⟩), .int .i64 a1] w fun e w' => ∃ v7_ : Value, e = .returned (.agg #[.int .i64 r1, .int .i64 r2, .int .i64 r3, .int .i64 r4, .string r5, .int .i64 r6, .string r7, v7_]) ∧ Kd.V k31 31 w' w.heap.size (fun k_ => (w.heap.size ≤ k_)) v7_ r8 ∧ IsS63 w0 w' g s0_0 r9 r10 r11 r12 r13 ∧ Below w0.heap.size w0 w' ∧ KeepBut w w' g none) : ∀ (g : Nat) (s0_0 : List (S136)) (s0_1 s0_2 s0_3 s0_4 s0_5 a1 a2 r1 r2 r3 r4 : Int) (r5 : ByteArray) (r6 : Int) (r7 : ByteArray) (r8 : List (S31)) (r9 r10 r11 r12 r13 : Int) (w0 w : World) (hI : IsS63 w0 w g s0_0 s0_1 s0_2 s0_3 s0_4 s0_5) (hB : Below w0.heap.size w0 w) (h : expr_Parser_chain.f k s0_0 s0_1 s0_2 s0_3 s0_4 s0_5 a1 a2 = some (r1, r2, r3, r4, r5, r6, r7, r8, r9, r10, r11, r12, r13)),
  Calls Tryz.prog 64 #[.pointer (some ⟨g, 0, none⟩), .int .i64 a1, .int .i64 a2] w fun e w' => ∃ v7_ : Value, e = .returned (.agg #[.int .i64 r1, .int .i64 r2, .int .i64 r3, .int .i64 r4, .string r5, .int .i64 r6, .string r7, v7_]) ∧ Kd.V k31 31 w' w.heap.size (fun k_ => (w.heap.size ≤ k_)) v7_ r8 ∧ IsS63 w0 w' g s0_0 r9 r10 r11 r12 r13 ∧ Below w0.heap.size w0 w' ∧ KeepBut w w' g none := by
 intro g s0_0 s0_1 s0_2 s0_3 s0_4 s0_5 a1 a2 r1 r2 r3 r4 r5 r6 r7 r8 r9 r10 r11 r12 r13 w0 w hI hB h
 cases k with
 | zero => exact absurd h (by simp [expr_Parser_chain.f])
 | succ k =>
 simp only [expr_Parser_chain.f] at h
 have hu31 := Tryz.underlying31
 have HI0 := am hI
 have HK := am (KeepBut.refl w g none)
 have HL := am hB.size
 clear hI
 have HW0 := am hB.size
 have HB := am hB
 clear hB
 have H : ((expr_levels.f).bind fun t627 => (if a2 > 4 then ((expr_Parser_prefix.f k s0_0 s0_1 s0_2 s0_3 s0_4 s0_5 a1).bind fun bt630 => (some (bt630.1, bt630.2.1, bt630.2.2.1, bt630.2.2.2.1, bt630.2.2.2.2.1, bt630.2.2.2.2.2.1, bt630.2.2.2.2.2.2.1, bt630.2.2.2.2.2.2.2.1, bt630.2.2.2.2.2.2.2.2.1, bt630.2.2.2.2.2.2.2.2.2.1, bt630.2.2.2.2.2.2.2.2.2.2.1, bt630.2.2.2.2.2.2.2.2.2.2.2.1, bt630.2.2.2.2.2.2.2.2.2.2.2.2))) else ((expr_Parser_chain.f k s0_0 s0_1 s0_2 s0_3 s0_4 s0_5 a1 (wrap64 (a2 + 1))).bind fun bt645 => (expr_Parser_chain.l0 k a1 a2 t627 s0_0 bt645.2.2.2.2.2.2.2.2.1 bt645.2.2.2.2.2.2.2.2.2.1 bt645.2.2.2.2.2.2.2.2.2.2.1 bt645.2.2.2.2.2.2.2.2.2.2.2.1 bt645.2.2.2.2.2.2.2.2.2.2.2.2 bt645.1 bt645.2.1 bt645.2.2.1 bt645.2.2.2.1 bt645.2.2.2.2.1 bt645.2.2.2.2.2.1 bt645.2.2.2.2.2.2.1 bt645.2.2.2.2.2.2.2.1)))) = some (r1, r2, r3, r4, r5, r6, r7, r8, r9, r10, r11, r12, r13) := h
 clear h
 replace H := obe H
 obtain ⟨t627, A4, H⟩ := H
 have HC5 := am H
 clear H
 go_enter Tryz.func64, Tryz.ntmps64
 go_upto_if 12 with (first | ((with_reducible refine gate_dst (N := 6) rfl ?_); refine bev (#[.int .i64 0, .int .i64 0, .int .i64 0, .int .i64 0, .string (⟨#[]⟩ : ByteArray), .int .i64 0, .string (⟨#[]⟩ : ByteArray), .slice none 0 0]) 31 ?_; intro gb626 hg w6 hbox hb; replace HB := sb HB hb; have BK626 := am (hbox); have GW626 := gk hg HK; have GE626 := am (Nat.le_trans HW0.out GW626.out); replace HK := am (KeepBut.trans (kz HK.out) (KeepBut.of_below hb g none) (.inl rfl)); have NB0_626 := am ((nlt (a := g) hg (IsS63.lt (show IsS63 w0 _ g s0_0 s0_1 s0_2 s0_3 s0_4 s0_5 from hz HI0.out)))); have NB626_0 := am ((ngt (a := g) hg (IsS63.lt (show IsS63 w0 _ g s0_0 s0_1 s0_2 s0_3 s0_4 s0_5 from hz HI0.out)))); replace HI0 := am (IsS63.below (hz HI0.out) hb); clear hb hbox hg) | ((with_reducible refine gate_callee (f := 108) rfl ?_); refine gl_ (some 10) Tryz.func108 (by kernel_rfl) #[] rfl ?_; (with_reducible refine (expr_levels.calls  t627 _ A4.out).mono ?_); rintro e w7 ⟨v628, rfl, ho0, hb⟩; refine ⟨_, rfl, ?_⟩; have HO629 := am (Kd.N_lower (Kd.N_mono (ok' := fun k_ => (w.heap.size ≤ k_) ∧ k_ ≠ gb626 ∧ k_ ≠ g) ho0 (fun k_ hk_ => ⟨(Nat.le_trans (keep_size (w := w) (g := g) (row := none) (kz HK.out)) hk_), (Kd.freshB (bk BK626.out) k_ hk_), (IsS63.fresh (hz HI0.out) k_ hk_)⟩)) (keep_size (w := w) (g := g) (row := none) (kz HK.out))); replace BK626 := kb BK626 hb; replace HK := am (KeepBut.trans (kz HK.out) (KeepBut.of_below hb g none) (.inl rfl)); replace HB := sb HB hb; replace HI0 := am (IsS63.below (hz HI0.out) hb); clear hb ho0))
 (try simp only [Act.put, List.setIfInBounds_toArray, List.set_cons_zero, List.set_cons_succ])
 have H := HC5.out
 clear HC5
 by_cases c8 : a2 > 4
 ·rw [if_pos c8] at H
  have c8b0 : decide (4 < a2) = true := decide_eq_true c8
  clear c8
  (first | rw [c8b0] | (simp only [i64_w, i32_w]; rw [c8b0]) | skip)
  replace H := obe13 H
  obtain ⟨t630, t631, t632, t633, t634, t635, t636, t637, t640, t641, t642, t643, t644, A9, H⟩ := H
  simp only [Option.some.injEq, Prod.mk.injEq] at H
  obtain ⟨rfl, rfl, rfl, rfl, rfl, rfl, rfl, rfl, rfl, rfl, rfl, rfl, rfl⟩ := H
  go_wp2_with (first | ((with_reducible refine gate_callee (f := 109) rfl ?_); refine gl_ (some 15) Tryz.func109 (by kernel_rfl) #[.pointer (some ⟨g, 0, none⟩), .int .i64 a1] rfl ?_; (with_reducible refine (ih_expr_Parser_prefix k (by omega) g s0_0 s0_1 s0_2 s0_3 s0_4 s0_5 a1 t630 t631 t632 t633 t634 t635 t636 t637 t640 t641 t642 t643 t644 w0 _ ?side1 ?side2 A9.out).mono ?_); (case side1 => exact hz HI0.out); (case side2 => exact bz HB.out); rintro e w10 ⟨v638, rfl, ho0, hi, hb, hk⟩; refine ⟨_, rfl, ?_⟩; have HO639 := am (Kd.V_lower (Kd.V_mono (ok' := fun k_ => (w.heap.size ≤ k_) ∧ some k_ ≠ (v628 : Value).ownBlock ∧ k_ ≠ gb626 ∧ k_ ≠ g) ho0 (fun k_ hk_ => ⟨(Nat.le_trans (keep_size (w := w) (g := g) (row := none) (kz HK.out)) hk_), (Kd.fresh' (Kd.N_lt (nn HO629.out)) k_ hk_), (Kd.freshB (bk BK626.out) k_ hk_), (IsS63.fresh (hz HI0.out) k_ hk_)⟩)) (keep_size (w := w) (g := g) (row := none) (kz HK.out))); replace BK626 := am (KeepBut.blk hk (bk BK626.out) NB626_0.out (by simp)); replace HO629 := am (Kd.N_mono (Kd.N_keep (Kd.N_mono (ok := fun k_ => (((w.heap.size ≤ k_)) ∧ (k_ ≠ gb626 ∧ k_ ≠ g))) (nn HO629.out) (fun k_ hk_ => (⟨hk_, hk_.2.2⟩ : _ ∧ k_ ≠ g))) hk (fun _ h => h.2)) (fun _ h => h.1)); replace HK := am (KeepBut.trans (kz HK.out) hk (.inl rfl)); replace HB := am (hb); replace HI0 := am (hi); clear hb hk hi ho0; have hnb11 := NB626_0.out; have hnc11 := NB0_626.out; obtain ⟨Z12_0, Z12_1, Z12_2, Z12_3, Z12_4, Z12_5, Z12_6, Z12_7, F12_0, F12_1, F12_2, F12_3, F12_4, F12_5, F12_6, F12_7⟩ := cz8 BK626.out; obtain ⟨Ao13, co13, eo13⟩ := Kd.V_slice HO639.out; subst eo13))
  refine bodyPost_ret (results_cell_row rfl _ _ gb626 31 #[.int .i64 t630, .int .i64 t631, .int .i64 t632, .int .i64 t633, .string t634, .int .i64 t635, .string t636, .slice Ao13 t637.length co13] (0, 0) _ rfl (bp BK626.out) Tryz.underlying31 rfl (by kernel_rfl)) rfl ?_
  exact ⟨_, az, by (with_reducible repeat (first | apply Kd.V_alloc | apply Kd.V_drewN | apply Kd.V_drew)); exact Kd.V_mono (Kd.V_far (p := ⟨gb626, 7, none⟩) (Kd.V_far (p := ⟨gb626, 6, none⟩) (Kd.V_far (p := ⟨gb626, 5, none⟩) (Kd.V_far (p := ⟨gb626, 4, none⟩) (Kd.V_far (p := ⟨gb626, 3, none⟩) (Kd.V_far (p := ⟨gb626, 2, none⟩) (Kd.V_far (p := ⟨gb626, 1, none⟩) (Kd.V_far (p := ⟨gb626, 0, none⟩) (Kd.V_mono HO639.out (fun k_ hk => (⟨hk, hk.2.2.1⟩ : _ ∧ k_ ≠ gb626))) (fun _ hk => hk.2) (.int .i64 t630)) (fun _ hk => hk.2) (.int .i64 t631)) (fun _ hk => hk.2) (.int .i64 t632)) (fun _ hk => hk.2) (.int .i64 t633)) (fun _ hk => hk.2) (.string t634)) (fun _ hk => hk.2) (.int .i64 t635)) (fun _ hk => hk.2) (.string t636)) (fun _ hk => hk.2) (.slice Ao13 t637.length co13)) (fun _ hk => hk.1.1), hz HI0.out, bz HB.out, kz HK.out⟩
 rw [if_neg c8] at H
 have c8b0 : decide (4 < a2) = false := decide_eq_false c8
 clear c8
 (first | rw [c8b0] | (simp only [i64_w, i32_w]; rw [c8b0]) | skip)
 replace H := obe13 H
 obtain ⟨t645, t646, t647, t648, t649, t650, t651, t652, t655, t656, t657, t658, t659, A14, H⟩ := H
 have H' := am H
 clear H
 go_wp2_with (first | ((with_reducible refine gate_callee (f := 64) rfl ?_); refine gl_ (some 20) Tryz.func64 (by kernel_rfl) #[.pointer (some ⟨g, 0, none⟩), .int .i64 a1, .int .i64 (wrap64 (a2 + 1))] rfl ?_; (with_reducible refine (ih_expr_Parser_chain k (by omega) g s0_0 s0_1 s0_2 s0_3 s0_4 s0_5 a1 (wrap64 (a2 + 1)) t645 t646 t647 t648 t649 t650 t651 t652 t655 t656 t657 t658 t659 w0 _ ?side1 ?side2 A14.out).mono ?_); (case side1 => exact hz HI0.out); (case side2 => exact bz HB.out); rintro e w15 ⟨v653, rfl, ho0, hi, hb, hk⟩; refine ⟨_, rfl, ?_⟩; have HO654 := am (Kd.V_lower (Kd.V_mono (ok' := fun k_ => (w.heap.size ≤ k_) ∧ some k_ ≠ (v628 : Value).ownBlock ∧ k_ ≠ gb626 ∧ k_ ≠ g) ho0 (fun k_ hk_ => ⟨(Nat.le_trans (keep_size (w := w) (g := g) (row := none) (kz HK.out)) hk_), (Kd.fresh' (Kd.N_lt (nn HO629.out)) k_ hk_), (Kd.freshB (bk BK626.out) k_ hk_), (IsS63.fresh (hz HI0.out) k_ hk_)⟩)) (keep_size (w := w) (g := g) (row := none) (kz HK.out))); replace BK626 := am (KeepBut.blk hk (bk BK626.out) NB626_0.out (by simp)); replace HO629 := am (Kd.N_mono (Kd.N_keep (Kd.N_mono (ok := fun k_ => (((w.heap.size ≤ k_)) ∧ (k_ ≠ gb626 ∧ k_ ≠ g))) (nn HO629.out) (fun k_ hk_ => (⟨hk_, hk_.2.2⟩ : _ ∧ k_ ≠ g))) hk (fun _ h => h.2)) (fun _ h => h.1)); replace HK := am (KeepBut.trans (kz HK.out) hk (.inl rfl)); replace HB := am (hb); replace HI0 := am (hi); clear hb hk hi ho0) | ((with_reducible refine gate_dst (N := 8) rfl ?_); refine bev (#[.int .i64 0, .int .i64 0, .int .i64 0, .int .i64 0, .string (⟨#[]⟩ : ByteArray), .int .i64 0, .string (⟨#[]⟩ : ByteArray), .slice none 0 0]) 31 ?_; intro gb660 hg w16 hbox hb; replace HO629 := am (Kd.N_below (Kd.N_elderB (nn HO629.out) gb660 (Nat.le_of_eq hg.symm)) hb); replace HO654 := am (Kd.V_below (Kd.V_elderB (vv HO654.out) gb660 (Nat.le_of_eq hg.symm)) hb); replace HB := sb HB hb; have BK660 := am (hbox); have GW660 := gk hg HK; have GE660 := am (Nat.le_trans HW0.out GW660.out); replace HK := am (KeepBut.trans (kz HK.out) (KeepBut.of_below hb g none) (.inl rfl)); have NB626_660 := na hg BK626; have NB660_626 := nb hg BK626; replace BK626 := kb BK626 hb; have NB0_660 := am ((nlt (a := g) hg (IsS63.lt (show IsS63 w0 _ g s0_0 t655 t656 t657 t658 t659 from hz HI0.out)))); have NB660_0 := am ((ngt (a := g) hg (IsS63.lt (show IsS63 w0 _ g s0_0 t655 t656 t657 t658 t659 from hz HI0.out)))); replace HI0 := am (IsS63.below (hz HI0.out) hb); clear hb hbox hg; have hnb17 := NB660_626.out; have hnc17 := NB626_660.out; have hnb18 := NB660_0.out; have hnc18 := NB0_660.out; obtain ⟨Z19_0, Z19_1, Z19_2, Z19_3, Z19_4, Z19_5, Z19_6, Z19_7, F19_0, F19_1, F19_2, F19_3, F19_4, F19_5, F19_6, F19_7⟩ := cz8 BK660.out; obtain ⟨Ao20, co20, eo20⟩ := Kd.V_slice HO654.out; subst eo20))
 (try simp only [Act.put, List.setIfInBounds_toArray, List.set_cons_succ, List.set_cons_zero])
 go_loopg [] k (fun kq w' => ∃ (x1001_1 x1002_1 x1003_1 x1004_1 x1005_1 x661000_1 x661001_1 x661002_1 x661003_1 : Int) (x661004_1 : ByteArray) (x661005_1 : Int) (x661006_1 : ByteArray) (x661007_1 : List (S31)) (u661007 : Value), Aside0 (expr_Parser_chain.l0 kq a1 a2 t627 s0_0 x1001_1 x1002_1 x1003_1 x1004_1 x1005_1 x661000_1 x661001_1 x661002_1 x661003_1 x661004_1 x661005_1 x661006_1 x661007_1 = some (r1, r2, r3, r4, r5, r6, r7, r8, r9, r10, r11, r12, r13)) ∧ Aside0 (kq ≤ k) ∧ Aside0 (Kd.N k143 143 w' w.heap.size (fun k_ => (w.heap.size ≤ k_) ∧ k_ ≠ gb626 ∧ k_ ≠ gb660 ∧ k_ ≠ g) v628 t627) ∧ Aside0 (Kd.V k31 31 w' w.heap.size (fun k_ => (w.heap.size ≤ k_) ∧ some k_ ≠ (v628 : Value).ownBlock ∧ k_ ≠ gb626 ∧ k_ ≠ gb660 ∧ k_ ≠ g) u661007 x661007_1) ∧ Aside0 (w'.heap[gb626]? = some (.cells #[.int .i64 0, .int .i64 0, .int .i64 0, .int .i64 0, .string (⟨#[]⟩ : ByteArray), .int .i64 0, .string (⟨#[]⟩ : ByteArray), (.slice none 0 0)] 31 (0, 0))) ∧ Aside0 (w'.heap[gb660]? = some (.cells #[.int .i64 x661000_1, .int .i64 x661001_1, .int .i64 x661002_1, .int .i64 x661003_1, .string x661004_1, .int .i64 x661005_1, .string x661006_1, u661007] 31 (0, 0))) ∧ Aside0 (IsS63 w0 w' g s0_0 x1001_1 x1002_1 x1003_1 x1004_1 x1005_1) ∧ Aside0 (KeepBut w w' g none) ∧ Aside0 (Below w0.heap.size w0 w'))
 case atStart => exact ⟨(t655), (t656), (t657), (t658), (t659), (t645), (t646), (t647), (t648), (t649), (t650), (t651), (t652), (.slice Ao20 t652.length co20), H', ⟨Nat.le_refl _⟩, ⟨vfN HO629.out⟩, ⟨vfV HO654.out⟩, ⟨bp BK626.out⟩, ⟨bp BK660.out⟩, ⟨hz HI0.out⟩, ⟨kz HK.out⟩, ⟨bz HB.out⟩⟩
 case round =>
  clear H'
  try clear c8; try clear c8b0; try clear Z12_0; try clear Z12_1; try clear Z12_2; try clear Z12_3; try clear Z12_4; try clear Z12_5; try clear Z12_6; try clear Z12_7; try clear Z19_0; try clear Z19_1; try clear Z19_2; try clear Z19_3; try clear Z19_4; try clear Z19_5; try clear Z19_6; try clear Z19_7; try clear F12_0; try clear F12_1; try clear F12_2; try clear F12_3; try clear F12_4; try clear F12_5; try clear F12_6; try clear F12_7; try clear F19_0; try clear F19_1; try clear F19_2; try clear F19_3; try clear F19_4; try clear F19_5; try clear F19_6; try clear F19_7
  obtain ⟨x1001_1, x1002_1, x1003_1, x1004_1, x1005_1, x661000_1, x661001_1, x661002_1, x661003_1, x661004_1, x661005_1, x661006_1, x661007_1, u661007, HA, HK1, HO_7, HO_661007, BK626, BK660, HI0, HK, HB⟩ := hrel
  cases gk with
  | zero => exact absurd HA.out (by simp [expr_Parser_chain.l0])
  | succ k1 =>
   have H := HA.out
   clear HA
   simp only [expr_Parser_chain.l0] at H
   by_cases c21 : x1004_1 = 0
   ·replace H := ipe c21 H
    obtain ⟨H, c21b0, c21b1⟩ := H
    clear c21
    by_cases c22 : 0 ≤ a2
    ·rw [if_pos c22] at H
     have c22b0 : decide (0 ≤ a2) = true := decide_eq_true c22
     clear c22
     by_cases c23 : a2 < (t627.length : Int)
     ·rw [if_pos c23] at H
      have c23b0 : decide (a2 < (t627.length : Int)) = true := decide_eq_true c23
      clear c23
      replace H := obe6 H
      obtain ⟨t662, t663, t664, t665, t666, t667, A24, H⟩ := H
      have HC25 := am H
      clear H
      obtain ⟨ASz26_0, cSz26_0, HSz26_0, Z26_0, Z26_1, Z26_2, Z26_3, Z26_4, Z26_5, F26_1, F26_2, F26_3, F26_4, F26_5⟩ := open63 HI0.out
      obtain ⟨Ao27, co27, eo27⟩ := Kd.N_slice HO_7.out
      subst eo27
      have p661 : 0 ≤ (a2 : Int) := of_decide_eq_true tz
      have q661 : a2 < (t627.length : Int) := of_decide_eq_true tz
      obtain ⟨ad661, A661_0, c661_0, A661_1, c661_1, e661, hx661_0, hx661_1, hx661_2, hl661_0, hi661_0, hl661_1, hi661_1⟩ := at_T143 (Kd.N_reads' HO_7.out).2.2 a2 p661 q661
      cases e661
      obtain ⟨ce661, hce661, hMe661, hcc661⟩ := Kd.N_get HO_7.out z143 a2 p661 (by first | exact q661 | exact of_decide_eq_true tz | (have e_ := (Kd.N_reads' HO_7.out).1; omega))
      obtain ⟨ua661_0, uc661_0, ua661_1, uc661_1, rfl, ul661_0, ge661_0, ul661_1, ge661_1⟩ := k143_openF hMe661
      have hv661_0 := hcc661 0 _ rfl
      rw [Nat.add_zero] at hv661_0
      replace hv661_0 := Option.some.inj (hv661_0.symm.trans hx661_0)
      injection hv661_0 with hva_ hvn_ hvc_
      rw [hva_] at ge661_0
      rw [hvc_] at ul661_0
      have HL661_0 := am (show Kd.V Kd.string 9 _ w.heap.size _ _ ((rd_T143 t627 a2).f0) from Kd.V_mk ul661_0 ge661_0)
      clear hva_ hvn_ hvc_ ge661_0 ul661_0
      have hv661_1 := hcc661 1 _ rfl
      rw [add_field _ _ 1 (by omega)] at hv661_1
      replace hv661_1 := Option.some.inj (hv661_1.symm.trans hx661_1)
      injection hv661_1 with hva_ hvn_ hvc_
      rw [hva_] at ge661_1
      rw [hvc_] at ul661_1
      have HL661_1 := am (show Kd.V (Kd.int .i64) 3 _ w.heap.size _ _ ((rd_T143 t627 a2).f1) from Kd.V_mk ul661_1 ge661_1)
      clear hva_ hvn_ hvc_ ge661_1 ul661_1 hcc661 hce661
      have HR661_0 := am hi661_0
      have HC661_0 := am hl661_0
      clear hi661_0 hl661_0
      have HR661_1 := am hi661_1
      have HC661_1 := am hl661_1
      clear hi661_1 hl661_1
      replace p661 := eq_true p661
      replace q661 := eq_true q661
      go_upto_if 35 with (first | ((with_reducible refine gate_callee (f := 110) rfl ?_); refine gl_ (some 33) Tryz.func110 (by kernel_rfl) #[.slice A661_0 ((rd_T143 t627 a2).f0).length c661_0, .func (.func 107) #[.pointer (some ⟨g, 0, none⟩)] #[]] rfl ?_; (with_reducible refine (standin_IndexIs.calls k1 _ _ ((rd_T143 t627 a2).f0) g s0_0 x1001_1 x1002_1 x1003_1 x1004_1 x1005_1 t662 t663 t664 t665 t666 t667 w0 _ ?side1 ?side2 ?side3 ?side4 A24.out).mono ?_); (case side1 => exact hz HI0.out); (case side2 => exact bz HB.out); (case side3 => repeat (first | exact (by repeat (first | (with_reducible exact HR661_0.out) | (with_reducible refine Kd.C_alloc ?_ _) | (with_reducible refine Kd.C_drewN ?_ _) | (with_reducible refine Kd.C_drew ?_) | exact HR661_0.out)) | (with_reducible refine Kd.C_alloc ?_ _) | (with_reducible refine Kd.C_drewN ?_ _) | (with_reducible refine Kd.C_drew ?_))); (case side4 => exact HC661_0.out); rintro e w28 ⟨rfl, hi, hb, hk⟩; refine ⟨_, rfl, ?_⟩; replace HO_7 := am (Kd.N_mono (Kd.N_keep (Kd.N_mono (ok := fun k_ => (((w.heap.size ≤ k_)) ∧ (k_ ≠ gb626 ∧ (k_ ≠ gb660 ∧ k_ ≠ g)))) (nn HO_7.out) (fun k_ hk_ => (⟨hk_, hk_.2.2.2⟩ : _ ∧ k_ ≠ g))) hk (fun _ h => h.2)) (fun _ h => h.1)); replace HO_661007 := am (Kd.V_mono (Kd.V_keep (Kd.V_mono (ok := fun k_ => (((w.heap.size ≤ k_)) ∧ (some k_ ≠ (.slice (some ad661) t627.length co27 : Value).ownBlock ∧ (k_ ≠ gb626 ∧ (k_ ≠ gb660 ∧ k_ ≠ g))))) (vv HO_661007.out) (fun k_ hk_ => (⟨hk_, hk_.2.2.2.2⟩ : _ ∧ k_ ≠ g))) hk (fun _ h => h.2)) (fun _ h => h.1)); replace BK626 := am (KeepBut.blk hk (bk BK626.out) NB626_0.out (by simp)); replace BK660 := am (KeepBut.blk hk (bk BK660.out) NB660_0.out (by simp)); replace HL661_0 := am (Kd.V_mono (Kd.V_keep (Kd.V_mono (ok := fun k_ => ((((w.heap.size ≤ k_)) ∧ (k_ ≠ gb626 ∧ (k_ ≠ gb660 ∧ k_ ≠ g))) ∧ some k_ ≠ (.slice (some ad661) t627.length co27 : Value).ownBlock)) (vv HL661_0.out) (fun k_ hk_ => (⟨hk_, hk_.1.2.2.2⟩ : _ ∧ k_ ≠ g))) hk (fun _ h => h.2)) (fun _ h => h.1)); replace HL661_1 := am (Kd.V_mono (Kd.V_keep (Kd.V_mono (ok := fun k_ => ((((w.heap.size ≤ k_)) ∧ (k_ ≠ gb626 ∧ (k_ ≠ gb660 ∧ k_ ≠ g))) ∧ some k_ ≠ (.slice (some ad661) t627.length co27 : Value).ownBlock)) (vv HL661_1.out) (fun k_ hk_ => (⟨hk_, hk_.1.2.2.2⟩ : _ ∧ k_ ≠ g))) hk (fun _ h => h.2)) (fun _ h => h.1)); replace HK := am (KeepBut.trans (kz HK.out) hk (.inl rfl)); replace HB := am (hb); replace HI0 := am (hi); clear hb hk hi))
      (try simp only [Act.put, List.setIfInBounds_toArray, List.set_cons_zero, List.set_cons_succ])
      have H := HC25.out
      clear HC25
      clear Z26_0 Z26_1 Z26_2 Z26_3 Z26_4 Z26_5 F26_1 F26_2 F26_3 F26_4 F26_5 hx661_0 hx661_1 hx661_2
      by_cases c29 : t662 < 0
      ·rw [if_pos c29] at H
       have c29b0 : decide (t662 < 0) = true := decide_eq_true c29
       clear c29
       (first | rw [c29b0] | (simp only [i64_w, i32_w]; rw [c29b0]) | skip)
       simp only [Option.some.injEq, Prod.mk.injEq] at H
       obtain ⟨rfl, rfl, rfl, rfl, rfl, rfl, rfl, rfl, rfl, rfl, rfl, rfl, rfl⟩ := H
       have hnb30 := NB660_626.out
       have hnc30 := NB626_660.out
       have hnb31 := NB660_0.out
       have hnc31 := NB0_660.out
       obtain ⟨Z32_0, Z32_1, Z32_2, Z32_3, Z32_4, Z32_5, Z32_6, Z32_7, F32_0, F32_1, F32_2, F32_3, F32_4, F32_5, F32_6, F32_7⟩ := cz8 BK660.out
       have hnb33 := NB626_0.out
       have hnc33 := NB0_626.out
       obtain ⟨Z34_0, Z34_1, Z34_2, Z34_3, Z34_4, Z34_5, Z34_6, Z34_7, F34_0, F34_1, F34_2, F34_3, F34_4, F34_5, F34_6, F34_7⟩ := cz8 BK626.out
       obtain ⟨Ao35, co35, eo35⟩ := Kd.V_slice HO_661007.out
       subst eo35
       go_wp2
       refine bodyPost_ret (results_cell_row rfl _ _ gb626 31 #[.int .i64 x661000_1, .int .i64 x661001_1, .int .i64 x661002_1, .int .i64 x661003_1, .string x661004_1, .int .i64 x661005_1, .string x661006_1, .slice Ao35 x661007_1.length co35] (0, 0) _ rfl (bp BK626.out) Tryz.underlying31 rfl (by kernel_rfl)) rfl ?_
       exact ⟨_, az, by (with_reducible repeat (first | apply Kd.V_alloc | apply Kd.V_drewN | apply Kd.V_drew)); exact Kd.V_mono (Kd.V_far (p := ⟨gb626, 7, none⟩) (Kd.V_far (p := ⟨gb626, 6, none⟩) (Kd.V_far (p := ⟨gb626, 5, none⟩) (Kd.V_far (p := ⟨gb626, 4, none⟩) (Kd.V_far (p := ⟨gb626, 3, none⟩) (Kd.V_far (p := ⟨gb626, 2, none⟩) (Kd.V_far (p := ⟨gb626, 1, none⟩) (Kd.V_far (p := ⟨gb626, 0, none⟩) (Kd.V_mono HO_661007.out (fun k_ hk => (⟨hk, hk.2.2.1⟩ : _ ∧ k_ ≠ gb626))) (fun _ hk => hk.2) (.int .i64 x661000_1)) (fun _ hk => hk.2) (.int .i64 x661001_1)) (fun _ hk => hk.2) (.int .i64 x661002_1)) (fun _ hk => hk.2) (.int .i64 x661003_1)) (fun _ hk => hk.2) (.string x661004_1)) (fun _ hk => hk.2) (.int .i64 x661005_1)) (fun _ hk => hk.2) (.string x661006_1)) (fun _ hk => hk.2) (.slice Ao35 x661007_1.length co35)) (fun _ hk => hk.1.1), hz HI0.out, bz HB.out, kz HK.out⟩
      rw [if_neg c29] at H
      have c29b0 : decide (t662 < 0) = false := decide_eq_false c29
      clear c29
      (first | rw [c29b0] | (simp only [i64_w, i32_w]; rw [c29b0]) | skip)
      by_cases c36 : 0 ≤ t662
      ·rw [if_pos c36] at H
       have c36b0 : decide (0 ≤ t662) = true := decide_eq_true c36
       clear c36
       by_cases c37 : t662 < (((rd_T143 t627 a2).f1).length : Int)
       ·rw [if_pos c37] at H
        have c37b0 : decide (t662 < (((rd_T143 t627 a2).f1).length : Int)) = true := decide_eq_true c37
        clear c37
        replace H := obe13 H
        obtain ⟨t670, t671, t672, t673, t674, t675, t676, t677, t680, t681, t682, t683, t684, A38, H⟩ := H
        obtain ⟨y685, hy685⟩ : ∃ y_ : List (S31), y_ = (([(⟨x661000_1, (⟨x661001_1, (⟨x661002_1, x661003_1⟩ : S23), x661004_1, x661005_1⟩ : S25), x661006_1, x661007_1⟩ : S31), (⟨t670, (⟨t671, (⟨t672, t673⟩ : S23), t674, t675⟩ : S25), t676, t677⟩ : S31)] : List (S31))) := ⟨_, rfl⟩
        replace H : ((expr_Parser_make.f s0_0 t680 t681 t682 t683 t684 (rd ((rd_T143 t627 a2).f1) t662) y685).bind fun bt688 => (if (rd_T143 t627 a2).f2 = true then (some (bt688.1, bt688.2.1, bt688.2.2.1, bt688.2.2.2.1, bt688.2.2.2.2.1, bt688.2.2.2.2.2.1, bt688.2.2.2.2.2.2.1, bt688.2.2.2.2.2.2.2.1, bt688.2.2.2.2.2.2.2.2.1, bt688.2.2.2.2.2.2.2.2.2.1, bt688.2.2.2.2.2.2.2.2.2.2.1, bt688.2.2.2.2.2.2.2.2.2.2.2.1, bt688.2.2.2.2.2.2.2.2.2.2.2.2)) else (expr_Parser_chain.l0 k1 a1 a2 t627 s0_0 bt688.2.2.2.2.2.2.2.2.1 bt688.2.2.2.2.2.2.2.2.2.1 bt688.2.2.2.2.2.2.2.2.2.2.1 bt688.2.2.2.2.2.2.2.2.2.2.2.1 bt688.2.2.2.2.2.2.2.2.2.2.2.2 bt688.1 bt688.2.1 bt688.2.2.1 bt688.2.2.2.1 bt688.2.2.2.2.1 bt688.2.2.2.2.2.1 bt688.2.2.2.2.2.2.1 bt688.2.2.2.2.2.2.2.1))) = some (r1, r2, r3, r4, r5, r6, r7, r8, r9, r10, r11, r12, r13) := by first | (rw [hy685]; with_reducible exact H) | (have H2_ := (Option.bind_some _ _).symm.trans H; rw [hy685]; with_reducible exact H2_) | (have H2_ := (Option.bind_some _ _).symm.trans H; with_reducible exact H2_) | with_reducible exact H | (rw [hy685]; exact H) | exact H
        have Ny685 := am hy685
        clear hy685
        replace H := obe13 H
        obtain ⟨t688, t689, t690, t691, t692, t693, t694, t695, t698, t699, t700, t701, t702, A39, H⟩ := H
        have HC40 := am H
        clear H
        obtain ⟨ASz41_0, cSz41_0, HSz41_0, Z41_0, Z41_1, Z41_2, Z41_3, Z41_4, Z41_5, F41_1, F41_2, F41_3, F41_4, F41_5⟩ := open63 HI0.out
        try go_wp2
        have n0_ : Aside0 (Kd.N k143 143 (w28.setCell ⟨g, 1, none⟩ (.int .i64 (wrap64 (t663 + 1)))) w.heap.size (fun k_ => (w.heap.size ≤ k_) ∧ k_ ≠ gb626 ∧ k_ ≠ gb660 ∧ k_ ≠ g) (.slice (some ad661) t627.length co27) t627) := ⟨vfN HO_7.out⟩
        have n1_ : Aside0 (Kd.V k31 31 (w28.setCell ⟨g, 1, none⟩ (.int .i64 (wrap64 (t663 + 1)))) w.heap.size (fun k_ => (w.heap.size ≤ k_) ∧ some k_ ≠ (.slice (some ad661) t627.length co27 : Value).ownBlock ∧ k_ ≠ gb626 ∧ k_ ≠ gb660 ∧ k_ ≠ g) u661007 x661007_1) := ⟨vfV HO_661007.out⟩
        have n2_ : Aside0 (Kd.V Kd.string 9 (w28.setCell ⟨g, 1, none⟩ (.int .i64 (wrap64 (t663 + 1)))) w.heap.size (fun k_ => (w.heap.size ≤ k_) ∧ some k_ ≠ (.slice (some ad661) t627.length co27 : Value).ownBlock ∧ k_ ≠ gb626 ∧ k_ ≠ gb660 ∧ k_ ≠ g) (.slice A661_0 ((rd_T143 t627 a2).f0).length c661_0) ((rd_T143 t627 a2).f0)) := ⟨vfV (Kd.V_mono HL661_0.out (fun k_ hk => (⟨hk, hk.1.2.2.2⟩ : _ ∧ k_ ≠ g)))⟩
        have n3_ : Aside0 (Kd.V (Kd.int .i64) 3 (w28.setCell ⟨g, 1, none⟩ (.int .i64 (wrap64 (t663 + 1)))) w.heap.size (fun k_ => (w.heap.size ≤ k_) ∧ some k_ ≠ (.slice (some ad661) t627.length co27 : Value).ownBlock ∧ k_ ≠ gb626 ∧ k_ ≠ gb660 ∧ k_ ≠ g) (.slice A661_1 ((rd_T143 t627 a2).f1).length c661_1) ((rd_T143 t627 a2).f1)) := ⟨vfV (Kd.V_mono HL661_1.out (fun k_ hk => (⟨hk, hk.1.2.2.2⟩ : _ ∧ k_ ≠ g)))⟩
        have n4_ : Aside0 ((w28.setCell ⟨g, 1, none⟩ (.int .i64 (wrap64 (t663 + 1)))).heap[gb626]? = some (.cells #[.int .i64 0, .int .i64 0, .int .i64 0, .int .i64 0, .string (⟨#[]⟩ : ByteArray), .int .i64 0, .string (⟨#[]⟩ : ByteArray), .slice none 0 0] 31 (0, 0))) := ⟨bp BK626.out⟩
        have n5_ : Aside0 ((w28.setCell ⟨g, 1, none⟩ (.int .i64 (wrap64 (t663 + 1)))).heap[gb660]? = some (.cells #[.int .i64 x661000_1, .int .i64 x661001_1, .int .i64 x661002_1, .int .i64 x661003_1, .string x661004_1, .int .i64 x661005_1, .string x661006_1, u661007] 31 (0, 0))) := ⟨bp BK660.out⟩
        have n6_ : Aside0 (IsS63 w0 (w28.setCell ⟨g, 1, none⟩ (.int .i64 (wrap64 (t663 + 1)))) g s0_0 (wrap64 (t663 + 1)) t664 t665 t666 t667) := ⟨hz HI0.out⟩
        have n7_ : Aside0 (KeepBut w (w28.setCell ⟨g, 1, none⟩ (.int .i64 (wrap64 (t663 + 1)))) g none) := ⟨kz HK.out⟩
        have n8_ : Aside0 (Below w0.heap.size w0 (w28.setCell ⟨g, 1, none⟩ (.int .i64 (wrap64 (t663 + 1))))) := ⟨bz HB.out⟩
        (try clear HO_7)
        (try clear HO_661007)
        (try clear HL661_0)
        (try clear HL661_1)
        (try clear BK626)
        (try clear BK660)
        (try clear HI0)
        (try clear HK)
        (try clear HB)
        generalize (w28.setCell ⟨g, 1, none⟩ (.int .i64 (wrap64 (t663 + 1)))) = w42 at n0_ n1_ n2_ n3_ n4_ n5_ n6_ n7_ n8_ ⊢
        have HO_7 := n0_
        have HO_661007 := n1_
        have HL661_0 := n2_
        have HL661_1 := n3_
        have BK626 := n4_
        have BK660 := n5_
        have HI0 := n6_
        have HK := n7_
        have HB := n8_
        clear n0_ n1_ n2_ n3_ n4_ n5_ n6_ n7_ n8_
        replace HO_7 := am (Kd.N_drew HO_7.out)
        replace HO_661007 := am (Kd.V_drew HO_661007.out)
        replace HL661_0 := am (Kd.V_drew HL661_0.out)
        replace HL661_1 := am (Kd.V_drew HL661_1.out)
        replace BK626 := am (blk_drew BK626.out)
        replace BK660 := am (blk_drew BK660.out)
        replace HI0 := am (IsS63.drew HI0.out)
        replace HK := am (keep_drew HK.out)
        replace HB := am (below_drew1 HB.out)
        have p668 : 0 ≤ (a2 : Int) := of_decide_eq_true tz
        have q668 : a2 < (t627.length : Int) := of_decide_eq_true tz
        obtain ⟨ad668, A668_0, c668_0, A668_1, c668_1, e668, hx668_0, hx668_1, hx668_2, hl668_0, hi668_0, hl668_1, hi668_1⟩ := at_T143 (Kd.N_reads' HO_7.out).2.2 a2 p668 q668
        obtain rfl : ad661 = ad668 := (by injection e668)
        obtain ⟨ce668, hce668, hMe668, hcc668⟩ := Kd.N_get HO_7.out z143 a2 p668 (by first | exact q668 | exact of_decide_eq_true tz | (have e_ := (Kd.N_reads' HO_7.out).1; omega))
        obtain ⟨ua668_0, uc668_0, ua668_1, uc668_1, rfl, ul668_0, ge668_0, ul668_1, ge668_1⟩ := k143_openF hMe668
        have hv668_0 := hcc668 0 _ rfl
        rw [Nat.add_zero] at hv668_0
        replace hv668_0 := Option.some.inj (hv668_0.symm.trans hx668_0)
        injection hv668_0 with hva_ hvn_ hvc_
        rw [hva_] at ge668_0
        rw [hvc_] at ul668_0
        have HL668_0 := am (show Kd.V Kd.string 9 _ w.heap.size _ _ ((rd_T143 t627 a2).f0) from Kd.V_mk ul668_0 ge668_0)
        clear hva_ hvn_ hvc_ ge668_0 ul668_0
        have hv668_1 := hcc668 1 _ rfl
        rw [add_field _ _ 1 (by omega)] at hv668_1
        replace hv668_1 := Option.some.inj (hv668_1.symm.trans hx668_1)
        injection hv668_1 with hva_ hvn_ hvc_
        rw [hva_] at ge668_1
        rw [hvc_] at ul668_1
        have HL668_1 := am (show Kd.V (Kd.int .i64) 3 _ w.heap.size _ _ ((rd_T143 t627 a2).f1) from Kd.V_mk ul668_1 ge668_1)
        clear hva_ hvn_ hvc_ ge668_1 ul668_1 hcc668 hce668
        have HR668_0 := am hi668_0
        have HC668_0 := am hl668_0
        clear hi668_0 hl668_0
        have HR668_1 := am hi668_1
        have HC668_1 := am hl668_1
        clear hi668_1 hl668_1
        replace p668 := eq_true p668
        replace q668 := eq_true q668
        have p669 : 0 ≤ (t662 : Int) := of_decide_eq_true tz
        have q669 : t662 < (((rd_T143 t627 a2).f1).length : Int) := of_decide_eq_true tz
        obtain ⟨ad669, e669, hx669_0⟩ := Kd.at_int (by repeat (first | (with_reducible exact HR668_1.out) | (with_reducible refine Kd.C_alloc ?_ _) | (with_reducible refine Kd.C_drewN ?_ _) | (with_reducible refine Kd.C_drew ?_) | exact HR668_1.out)) t662 p669 q669
        cases e669
        replace p669 := eq_true p669
        replace q669 := eq_true q669
        refine start_ (n := 18) (S := fun w' => w'.cell? ⟨gb660, 0, none⟩ = some (.int .i64 x661000_1) ∧ w'.cell? ⟨gb660, 1, none⟩ = some (.int .i64 x661001_1) ∧ w'.cell? ⟨gb660, 2, none⟩ = some (.int .i64 x661002_1) ∧ w'.cell? ⟨gb660, 3, none⟩ = some (.int .i64 x661003_1) ∧ w'.cell? ⟨gb660, 4, none⟩ = some (.string x661004_1) ∧ w'.cell? ⟨gb660, 5, none⟩ = some (.int .i64 x661005_1) ∧ w'.cell? ⟨gb660, 6, none⟩ = some (.string x661006_1) ∧ w'.cell? ⟨gb660, 7, none⟩ = some (u661007) ∧ w'.cell? (ad661.add ((a2).toNat * 3)) = some (.slice A668_0 ((rd_T143 t627 a2).f0).length c668_0) ∧ w'.cell? ⟨(ad661.add ((a2).toNat * 3)).block, (ad661.add ((a2).toNat * 3)).off + 1, none⟩ = some (.slice (some ad669) ((rd_T143 t627 a2).f1).length c668_1) ∧ w'.cell? ⟨(ad661.add ((a2).toNat * 3)).block, (ad661.add ((a2).toNat * 3)).off + 2, none⟩ = some (.bool ((rd_T143 t627 a2).f2)) ∧ w'.cell? (ad669.add (t662).toNat) = some (.int .i64 (rd ((rd_T143 t627 a2).f1) t662))) (ds := [17]) (bts0 18) (by kernel_rfl) rfl rfl ⟨(blk_cell BK660.out 0).trans rfl, (blk_cell BK660.out 1).trans rfl, (blk_cell BK660.out 2).trans rfl, (blk_cell BK660.out 3).trans rfl, (blk_cell BK660.out 4).trans rfl, (blk_cell BK660.out 5).trans rfl, (blk_cell BK660.out 6).trans rfl, (blk_cell BK660.out 7).trans rfl, hx668_0, hx668_1, hx668_2, hx669_0⟩ (fun hHeld => ?_); refine with_tabW expr_Parser_chain.tab9 expr_Parser_chain.bits9 (fun HT_ HW_ => ?_)
        generalize w42.drew = w43 at HO_7 HO_661007 HL661_0 HL661_1 BK626 BK660 HI0 HK HB HL668_0 HL668_1 HR668_0 HR668_1 hx668_0 hx668_1 hx668_2 hx669_0 hHeld ⊢
        refine pu 0 (some 43) (bts 18 1) (any_of HT_.out (by kernel_rfl)) ?_
        refine pu 1 (some 44) (bts 18 3) (any_of HT_.out (by kernel_rfl)) ?_
        refine pu 2 (some 45) (bts 18 7) (any_of HT_.out (by kernel_rfl)) ?_
        refine pu 3 (some 46) (bts 18 15) (any_of HT_.out (by kernel_rfl)) ?_
        refine pu 4 (some 47) (bts 18 31) (any_of HT_.out (by kernel_rfl)) ?_
        refine pu 6 (some 49) (bts 18 95) (any_of HT_.out (by kernel_rfl)) ?_
        refine pu 10 (some 53) (bts 18 1119) (any_of HT_.out (by kernel_rfl)) ?_
        refine pu 11 (some 54) (bts 18 3167) (any_of HT_.out (by kernel_rfl)) ?_
        refine pu 12 (some 55) (bts 18 7263) (any_of HT_.out (by kernel_rfl)) ?_
        refine pu 13 (some 56) (bts 18 15455) (any_of HT_.out (by kernel_rfl)) ?_
        refine ta 5 (some 48) (bts 18 15487) (take_ofW HT_.out HW_.out (by kernel_rfl)) hHeld ?_
        refine pu 7 (some 50) (bts 18 15615) (any_of HT_.out (by kernel_rfl)) ?_
        refine ta 8 (some 51) (bts 18 15871) (take_ofW HT_.out HW_.out (by kernel_rfl)) hHeld ?_
        refine ta 9 (some 52) (bts 18 16383) (take_ofW HT_.out HW_.out (by kernel_rfl)) hHeld ?_
        refine one_ (i := 14) (N := some 57) (bts 18 32767) rfl rfl (one_of HT_.out (by kernel_rfl)) (by decide) (fun K hK => ?_)
        refine goes_ Tryz.func64 (by kernel_rfl) rfl #[.pointer (some ⟨g, 0, none⟩), .int .i64 a1, .int .i64 (wrap64 (a2 + 1))] (by rfl) rfl rfl lz ?_
        with_reducible refine (ih_expr_Parser_chain k1 (by have := HK1.out; omega) g s0_0 (wrap64 (t663 + 1)) t664 t665 t666 t667 a1 (wrap64 (a2 + 1)) t670 t671 t672 t673 t674 t675 t676 t677 t680 t681 t682 t683 t684 w0 _ ?side1 ?side2 A38.out).mono ?_
        (case side1 => exact hz HI0.out)
        (case side2 => exact bz HB.out)
        rintro e w44 ⟨v678, rfl, ho0, hi, hb, hk⟩
        have HS8_ := keep_cell hk (hHeld.2.2.2.2.2.2.2.2.1) (by first | (rw [add_block]; exact Kd.own_blk (IsS63.own_neN HI0.out HO_7.out (by decide))) | (show (Addr.add _ _).block ≠ _; rw [add_block]; exact Kd.own_blk (IsS63.own_neN HI0.out HO_7.out (by decide))) | exact Kd.own_blk (IsS63.own_neN HI0.out HO_7.out (by decide)))
        have HS9_ := keep_cell hk (hHeld.2.2.2.2.2.2.2.2.2.1) (by first | (rw [add_block]; exact Kd.own_blk (IsS63.own_neN HI0.out HO_7.out (by decide))) | (show (Addr.add _ _).block ≠ _; rw [add_block]; exact Kd.own_blk (IsS63.own_neN HI0.out HO_7.out (by decide))) | exact Kd.own_blk (IsS63.own_neN HI0.out HO_7.out (by decide)))
        have HS10_ := keep_cell hk (hHeld.2.2.2.2.2.2.2.2.2.2.1) (by first | (rw [add_block]; exact Kd.own_blk (IsS63.own_neN HI0.out HO_7.out (by decide))) | (show (Addr.add _ _).block ≠ _; rw [add_block]; exact Kd.own_blk (IsS63.own_neN HI0.out HO_7.out (by decide))) | exact Kd.own_blk (IsS63.own_neN HI0.out HO_7.out (by decide)))
        have HS11_ := keep_cell hk (hHeld.2.2.2.2.2.2.2.2.2.2.2) (by first | (rw [add_block]; exact (vne HL668_1.out 0 t662 (of_eq_true p669) (of_eq_true q669) (by decide) (fun k hk => by rintro rfl; simp at hk))) | (show (Addr.add _ _).block ≠ _; rw [add_block]; exact (vne HL668_1.out 0 t662 (of_eq_true p669) (of_eq_true q669) (by decide) (fun k hk => by rintro rfl; simp at hk))) | exact (vne HL668_1.out 0 t662 (of_eq_true p669) (of_eq_true q669) (by decide) (fun k hk => by rintro rfl; simp at hk)))
        refine ⟨_, rfl, ?_⟩
        replace HO_661007 := am (Kd.V_mono (Kd.V_keep (Kd.V_mono (ok := fun k_ => (((w.heap.size ≤ k_)) ∧ (some k_ ≠ (.slice (some ad661) t627.length co27 : Value).ownBlock ∧ (k_ ≠ gb626 ∧ (k_ ≠ gb660 ∧ k_ ≠ g))))) (vv HO_661007.out) (fun k_ hk_ => (⟨hk_, hk_.2.2.2.2⟩ : _ ∧ k_ ≠ g))) hk (fun _ h => h.2)) (fun _ h => h.1))
        replace HL661_0 := am (Kd.V_mono (Kd.V_keep (Kd.V_mono (ok := fun k_ => (((w.heap.size ≤ k_)) ∧ (some k_ ≠ (.slice (some ad661) t627.length co27 : Value).ownBlock ∧ (k_ ≠ gb626 ∧ (k_ ≠ gb660 ∧ k_ ≠ g))))) (vv HL661_0.out) (fun k_ hk_ => (⟨hk_, hk_.2.2.2.2⟩ : _ ∧ k_ ≠ g))) hk (fun _ h => h.2)) (fun _ h => h.1))
        replace HL661_1 := am (Kd.V_mono (Kd.V_keep (Kd.V_mono (ok := fun k_ => (((w.heap.size ≤ k_)) ∧ (some k_ ≠ (.slice (some ad661) t627.length co27 : Value).ownBlock ∧ (k_ ≠ gb626 ∧ (k_ ≠ gb660 ∧ k_ ≠ g))))) (vv HL661_1.out) (fun k_ hk_ => (⟨hk_, hk_.2.2.2.2⟩ : _ ∧ k_ ≠ g))) hk (fun _ h => h.2)) (fun _ h => h.1))
        replace HL668_0 := am (Kd.V_mono (Kd.V_keep (Kd.V_mono (ok := fun k_ => ((((w.heap.size ≤ k_)) ∧ (k_ ≠ gb626 ∧ (k_ ≠ gb660 ∧ k_ ≠ g))) ∧ some k_ ≠ (.slice (some ad661) t627.length co27 : Value).ownBlock)) (vv HL668_0.out) (fun k_ hk_ => (⟨hk_, hk_.1.2.2.2⟩ : _ ∧ k_ ≠ g))) hk (fun _ h => h.2)) (fun _ h => h.1))
        replace HL668_1 := am (Kd.V_mono (Kd.V_keep (Kd.V_mono (ok := fun k_ => ((((w.heap.size ≤ k_)) ∧ (k_ ≠ gb626 ∧ (k_ ≠ gb660 ∧ k_ ≠ g))) ∧ some k_ ≠ (.slice (some ad661) t627.length co27 : Value).ownBlock)) (vv HL668_1.out) (fun k_ hk_ => (⟨hk_, hk_.1.2.2.2⟩ : _ ∧ k_ ≠ g))) hk (fun _ h => h.2)) (fun _ h => h.1))
        have HO679 := am (Kd.V_lower (Kd.V_mono (ok' := fun k_ => (w.heap.size ≤ k_) ∧ some k_ ≠ (.slice (some ad661) t627.length co27 : Value).ownBlock ∧ k_ ≠ gb626 ∧ k_ ≠ gb660 ∧ k_ ≠ g) ho0 (fun k_ hk_ => ⟨(Nat.le_trans (keep_size (w := w) (g := g) (row := none) (kz HK.out)) hk_), (Kd.fresh' (Kd.N_lt (nn HO_7.out)) k_ hk_), (Kd.freshB (bk BK626.out) k_ hk_), (Kd.freshB (bk BK660.out) k_ hk_), (IsS63.fresh (hz HI0.out) k_ hk_)⟩)) (keep_size (w := w) (g := g) (row := none) (kz HK.out)))
        replace HO_7 := am (Kd.N_mono (Kd.N_keep (Kd.N_mono (ok := fun k_ => (((w.heap.size ≤ k_)) ∧ (k_ ≠ gb626 ∧ (k_ ≠ gb660 ∧ k_ ≠ g)))) (nn HO_7.out) (fun k_ hk_ => (⟨hk_, hk_.2.2.2⟩ : _ ∧ k_ ≠ g))) hk (fun _ h => h.2)) (fun _ h => h.1))
        replace BK626 := am (KeepBut.blk hk (bk BK626.out) NB626_0.out (by simp))
        replace BK660 := am (KeepBut.blk hk (bk BK660.out) NB660_0.out (by simp))
        replace HK := am (KeepBut.trans (kz HK.out) hk (.inl rfl))
        replace HB := am (hb)
        replace HI0 := am (hi)
        (try clear hb)
        (try clear hb2)
        (try clear hk)
        (try clear hi)
        (try clear ho0)
        obtain ⟨Ao45, co45, eo45⟩ := Kd.V_slice HO_661007.out
        (first | subst eo45 | (injection eo45 with f1_ f2_ f3_; have f4_ := f1_.symm; have f5_ := f3_.symm; clear f1_ f2_ f3_; subst f4_; subst f5_))
        obtain ⟨Ao46, co46, eo46⟩ := Kd.V_slice HO679.out
        (first | subst eo46 | (injection eo46 with f1_ f2_ f3_; have f4_ := f1_.symm; have f5_ := f3_.symm; clear f1_ f2_ f3_; subst f4_; subst f5_))
        refine hK.out _ _ ⟨(blk_cell BK660.out 0).trans rfl, (blk_cell BK660.out 1).trans rfl, (blk_cell BK660.out 2).trans rfl, (blk_cell BK660.out 3).trans rfl, (blk_cell BK660.out 4).trans rfl, (blk_cell BK660.out 5).trans rfl, (blk_cell BK660.out 6).trans rfl, (blk_cell BK660.out 7).trans rfl, HS8_, HS9_, HS10_, HS11_⟩ (fun hHeld => ?_)
        clear hK K
        refine norm_ (a' := ?_) ?_ ?_
        rotate_left
        ·show Act.put _ (some 57) _ = _
         simp only [Act.put, List.setIfInBounds_toArray, List.set_cons_zero, List.set_cons_succ, i64_w, i32_w]
         rfl
        refine one_ (i := 15) (N := some 58) (bts 18 65535) rfl rfl (one_of HT_.out (by kernel_rfl)) (by decide) (fun K hK => ?_)
        refine Kd.N_lit_step k31 _ 31 ?hg (N' := 58) ?hd (xs := ([(⟨x661000_1, (⟨x661001_1, (⟨x661002_1, x661003_1⟩ : S23), x661004_1, x661005_1⟩ : S25), x661006_1, x661007_1⟩ : S31), (⟨t670, (⟨t671, (⟨t672, t673⟩ : S23), t674, t675⟩ : S25), t676, t677⟩ : S31)] : List (S31))) (inner := [.int .i64 x661000_1, .int .i64 x661001_1, .int .i64 x661002_1, .int .i64 x661003_1, .string x661004_1, .int .i64 x661005_1, .string x661006_1, .slice Ao45 x661007_1.length co45, .int .i64 t670, .int .i64 t671, .int .i64 t672, .int .i64 t673, .string t674, .int .i64 t675, .string t676, .slice Ao46 t677.length co46]) (ok := (fun k_ => (w.heap.size ≤ k_) ∧ some k_ ≠ (.slice (some ad661) t627.length co27 : Value).ownBlock ∧ k_ ≠ gb626 ∧ k_ ≠ gb660 ∧ k_ ≠ g)) (okp := (fun k_ => (w.heap.size ≤ k_) ∧ some k_ ≠ (.slice (some ad661) t627.length co27 : Value).ownBlock ∧ k_ ≠ gb626 ∧ k_ ≠ gb660 ∧ k_ ≠ g)) ?hr ?hp (fun _ hk => hk) ((show ∀ k_, w44.heap.size ≤ k_ → (fun k_ => (w.heap.size ≤ k_) ∧ some k_ ≠ (.slice (some ad661) t627.length co27 : Value).ownBlock ∧ k_ ≠ gb626 ∧ k_ ≠ gb660 ∧ k_ ≠ g) k_ from fun k_ hk => ⟨(Nat.le_trans (keep_size (w := w) (g := g) (row := none) (kz HK.out)) hk), Kd.fresh' (Kd.N_lt (nn HO_7.out)) k_ hk, Kd.freshB (bk BK626.out) k_ hk, Kd.freshB (bk BK660.out) k_ hk, IsS63.fresh (hz HI0.out) k_ hk⟩) _ (Nat.le_refl _)) (Below.refl _ _) (Nat.le_refl _) (by simp) ?_; (case hd => rfl); (case hg => rfl); (case hr => first | (go_simp; done) | (go_simp; rfl)); (case hp => exact (Reps.c8 (show Kd.FK k31 _ _ (⟨x661000_1, (⟨x661001_1, (⟨x661002_1, x661003_1⟩ : S23), x661004_1, x661005_1⟩ : S25), x661006_1, x661007_1⟩ : S31) [.int .i64 x661000_1, .int .i64 x661001_1, .int .i64 x661002_1, .int .i64 x661003_1, .string x661004_1, .int .i64 x661005_1, .string x661006_1, .slice Ao45 x661007_1.length co45] from (k31_mkF _ _ (⟨x661000_1, (⟨x661001_1, (⟨x661002_1, x661003_1⟩ : S23), x661004_1, x661005_1⟩ : S25), x661006_1, x661007_1⟩ : S31) (Kd.V_reads' (Kd.V_mono (ok' := (fun k_ => (w.heap.size ≤ k_) ∧ some k_ ≠ (.slice (some ad661) t627.length co27 : Value).ownBlock ∧ k_ ≠ gb626 ∧ k_ ≠ gb660 ∧ k_ ≠ g)) (HO_661007.out) (fun k_ hk => ⟨hk.1, ⟨hk.2.1, ⟨hk.2.2.1, ⟨hk.2.2.2.1, hk.2.2.2.2⟩⟩⟩⟩))).2.1 (Kd.V_F (Kd.V_mono (ok' := (fun k_ => (w.heap.size ≤ k_) ∧ some k_ ≠ (.slice (some ad661) t627.length co27 : Value).ownBlock ∧ k_ ≠ gb626 ∧ k_ ≠ gb660 ∧ k_ ≠ g)) (HO_661007.out) (fun k_ hk => ⟨hk.1, ⟨hk.2.1, ⟨hk.2.2.1, ⟨hk.2.2.2.1, hk.2.2.2.2⟩⟩⟩⟩))))) (Reps.c8 (show Kd.FK k31 _ _ (⟨t670, (⟨t671, (⟨t672, t673⟩ : S23), t674, t675⟩ : S25), t676, t677⟩ : S31) [.int .i64 t670, .int .i64 t671, .int .i64 t672, .int .i64 t673, .string t674, .int .i64 t675, .string t676, .slice Ao46 t677.length co46] from (k31_mkF _ _ (⟨t670, (⟨t671, (⟨t672, t673⟩ : S23), t674, t675⟩ : S25), t676, t677⟩ : S31) (Kd.V_reads' (Kd.V_mono (ok' := (fun k_ => (w.heap.size ≤ k_) ∧ some k_ ≠ (.slice (some ad661) t627.length co27 : Value).ownBlock ∧ k_ ≠ gb626 ∧ k_ ≠ gb660 ∧ k_ ≠ g)) (HO679.out) (fun k_ hk => ⟨hk.1, ⟨hk.2.1, ⟨hk.2.2.1, ⟨hk.2.2.2.1, hk.2.2.2.2⟩⟩⟩⟩))).2.1 (Kd.V_F (Kd.V_mono (ok' := (fun k_ => (w.heap.size ≤ k_) ∧ some k_ ≠ (.slice (some ad661) t627.length co27 : Value).ownBlock ∧ k_ ≠ gb626 ∧ k_ ≠ gb660 ∧ k_ ≠ g)) (HO679.out) (fun k_ hk => ⟨hk.1, ⟨hk.2.1, ⟨hk.2.2.1, ⟨hk.2.2.2.1, hk.2.2.2.2⟩⟩⟩⟩))))) (Reps.none _ _))))
        intro v686 w47 ho48 hb hg_ hnew_
        have HS8_ := (hb.cell (World.block_lt_of_cell? _ _ (hHeld.2.2.2.2.2.2.2.2.1))).trans (hHeld.2.2.2.2.2.2.2.2.1)
        have HS9_ := (hb.cell (World.block_lt_of_cell? _ _ (hHeld.2.2.2.2.2.2.2.2.2.1))).trans (hHeld.2.2.2.2.2.2.2.2.2.1)
        have HS10_ := (hb.cell (World.block_lt_of_cell? _ _ (hHeld.2.2.2.2.2.2.2.2.2.2.1))).trans (hHeld.2.2.2.2.2.2.2.2.2.2.1)
        have HS11_ := (hb.cell (World.block_lt_of_cell? _ _ (hHeld.2.2.2.2.2.2.2.2.2.2.2))).trans (hHeld.2.2.2.2.2.2.2.2.2.2.2)
        clear hg_ hnew_
        (first | rw [← Ny685.out] at ho48 | (simp only [Int.reduceToNat] at ho48; rw [← Ny685.out] at ho48))
        replace HO_7 := am (Kd.N_elder' (nn HO_7.out) (Kd.N_base ho48) hb)
        replace HO_661007 := am (Kd.V_elder' (vv HO_661007.out) (Kd.N_base ho48) hb)
        replace HL661_0 := am (Kd.V_elder' (vv HL661_0.out) (Kd.N_base ho48) hb)
        replace HL661_1 := am (Kd.V_elder' (vv HL661_1.out) (Kd.N_base ho48) hb)
        replace HL668_0 := am (Kd.V_elder' (vv HL668_0.out) (Kd.N_base ho48) hb)
        replace HL668_1 := am (Kd.V_elder' (vv HL668_1.out) (Kd.N_base ho48) hb)
        replace HO679 := am (Kd.V_elder' (vv HO679.out) (Kd.N_base ho48) hb)
        have HO687 := am (Kd.N_lower ho48 (keep_size (w := w) (g := g) (row := none) (kz HK.out)))
        replace BK626 := kb BK626 hb
        replace BK660 := kb BK660 hb
        replace HI0 := am (IsS63.below (hz HI0.out) hb)
        replace HK := am (KeepBut.trans (kz HK.out) (KeepBut.of_below hb g none) (.inl rfl))
        replace HB := sb HB hb
        clear hb ho48
        obtain ⟨Ao49, co49, eo49⟩ := Kd.N_slice HO687.out
        (first | subst eo49 | (injection eo49 with f1_ f2_ f3_; have f4_ := f1_.symm; have f5_ := f3_.symm; clear f1_ f2_ f3_; subst f4_; subst f5_))
        refine hK.out _ _ ⟨(blk_cell BK660.out 0).trans rfl, (blk_cell BK660.out 1).trans rfl, (blk_cell BK660.out 2).trans rfl, (blk_cell BK660.out 3).trans rfl, (blk_cell BK660.out 4).trans rfl, (blk_cell BK660.out 5).trans rfl, (blk_cell BK660.out 6).trans rfl, (blk_cell BK660.out 7).trans rfl, HS8_, HS9_, HS10_, HS11_⟩ (fun hHeld => ?_)
        clear hK K
        refine norm_ (a' := ?_) ?_ ?_
        rotate_left
        ·show Act.put _ (some 58) _ = _
         simp only [Act.put, List.setIfInBounds_toArray, List.set_cons_zero, List.set_cons_succ, i64_w, i32_w]
         rfl
        refine one_ (i := 16) (N := some 59) (bts 18 131071) rfl rfl (one_of HT_.out (by kernel_rfl)) (by decide) (fun K hK => ?_)
        refine goes_ Tryz.func66 (by kernel_rfl) rfl #[.pointer (some ⟨g, 0, none⟩), .int .i64 (rd ((rd_T143 t627 a2).f1) t662), .slice Ao49 y685.length co49] (by rfl) rfl rfl lz ?_
        with_reducible refine (expr_Parser_make.calls g s0_0 t680 t681 t682 t683 t684 (rd ((rd_T143 t627 a2).f1) t662) (fun k_ => ((w.heap.size ≤ k_) ∧ (some k_ ≠ (.slice (some ad661) t627.length co27 : Value).ownBlock ∧ (k_ ≠ gb626 ∧ (k_ ≠ gb660 ∧ k_ ≠ g))))) _ _ y685 t688 t689 t690 t691 t692 t693 t694 t695 t698 t699 t700 t701 t702 w0 _ ?side1 ?side2 ?side3 A39.out).mono ?_
        (case side1 => exact hz HI0.out)
        (case side2 => exact bz HB.out)
        (case side3 => exact Kd.V_mono (Kd.N_V (HO687.out)) (fun k_ hk_ => ⟨hk_, hk_.2.2.2.2⟩))
        rintro e w50 ⟨v696, rfl, ho0, hi, hb, hk⟩
        have HS8_ := keep_cell hk (hHeld.2.2.2.2.2.2.2.2.1) (by first | (rw [add_block]; exact Kd.own_blk (IsS63.own_neN HI0.out HO_7.out (by decide))) | (show (Addr.add _ _).block ≠ _; rw [add_block]; exact Kd.own_blk (IsS63.own_neN HI0.out HO_7.out (by decide))) | exact Kd.own_blk (IsS63.own_neN HI0.out HO_7.out (by decide)))
        have HS9_ := keep_cell hk (hHeld.2.2.2.2.2.2.2.2.2.1) (by first | (rw [add_block]; exact Kd.own_blk (IsS63.own_neN HI0.out HO_7.out (by decide))) | (show (Addr.add _ _).block ≠ _; rw [add_block]; exact Kd.own_blk (IsS63.own_neN HI0.out HO_7.out (by decide))) | exact Kd.own_blk (IsS63.own_neN HI0.out HO_7.out (by decide)))
        have HS10_ := keep_cell hk (hHeld.2.2.2.2.2.2.2.2.2.2.1) (by first | (rw [add_block]; exact Kd.own_blk (IsS63.own_neN HI0.out HO_7.out (by decide))) | (show (Addr.add _ _).block ≠ _; rw [add_block]; exact Kd.own_blk (IsS63.own_neN HI0.out HO_7.out (by decide))) | exact Kd.own_blk (IsS63.own_neN HI0.out HO_7.out (by decide)))
        have HS11_ := keep_cell hk (hHeld.2.2.2.2.2.2.2.2.2.2.2) (by first | (rw [add_block]; exact (vne HL668_1.out 0 t662 (of_eq_true p669) (of_eq_true q669) (by decide) (fun k hk => by rintro rfl; simp at hk))) | (show (Addr.add _ _).block ≠ _; rw [add_block]; exact (vne HL668_1.out 0 t662 (of_eq_true p669) (of_eq_true q669) (by decide) (fun k hk => by rintro rfl; simp at hk))) | exact (vne HL668_1.out 0 t662 (of_eq_true p669) (of_eq_true q669) (by decide) (fun k hk => by rintro rfl; simp at hk)))
        refine ⟨_, rfl, ?_⟩
        replace HO_661007 := am (Kd.V_mono (Kd.V_keep (Kd.V_mono (ok := fun k_ => ((((w.heap.size ≤ k_)) ∧ (some k_ ≠ (.slice (some ad661) t627.length co27 : Value).ownBlock ∧ (k_ ≠ gb626 ∧ (k_ ≠ gb660 ∧ k_ ≠ g)))) ∧ some k_ ≠ (.slice Ao49 y685.length co49 : Value).ownBlock)) (vv HO_661007.out) (fun k_ hk_ => (⟨hk_, hk_.1.2.2.2.2⟩ : _ ∧ k_ ≠ g))) hk (fun _ h => h.2)) (fun _ h => h.1))
        replace HL661_0 := am (Kd.V_mono (Kd.V_keep (Kd.V_mono (ok := fun k_ => ((((w.heap.size ≤ k_)) ∧ (some k_ ≠ (.slice (some ad661) t627.length co27 : Value).ownBlock ∧ (k_ ≠ gb626 ∧ (k_ ≠ gb660 ∧ k_ ≠ g)))) ∧ some k_ ≠ (.slice Ao49 y685.length co49 : Value).ownBlock)) (vv HL661_0.out) (fun k_ hk_ => (⟨hk_, hk_.1.2.2.2.2⟩ : _ ∧ k_ ≠ g))) hk (fun _ h => h.2)) (fun _ h => h.1))
        replace HL661_1 := am (Kd.V_mono (Kd.V_keep (Kd.V_mono (ok := fun k_ => ((((w.heap.size ≤ k_)) ∧ (some k_ ≠ (.slice (some ad661) t627.length co27 : Value).ownBlock ∧ (k_ ≠ gb626 ∧ (k_ ≠ gb660 ∧ k_ ≠ g)))) ∧ some k_ ≠ (.slice Ao49 y685.length co49 : Value).ownBlock)) (vv HL661_1.out) (fun k_ hk_ => (⟨hk_, hk_.1.2.2.2.2⟩ : _ ∧ k_ ≠ g))) hk (fun _ h => h.2)) (fun _ h => h.1))
        replace HL668_0 := am (Kd.V_mono (Kd.V_keep (Kd.V_mono (ok := fun k_ => (((((w.heap.size ≤ k_)) ∧ (k_ ≠ gb626 ∧ (k_ ≠ gb660 ∧ k_ ≠ g))) ∧ some k_ ≠ (.slice (some ad661) t627.length co27 : Value).ownBlock) ∧ some k_ ≠ (.slice Ao49 y685.length co49 : Value).ownBlock)) (vv HL668_0.out) (fun k_ hk_ => (⟨hk_, hk_.1.1.2.2.2⟩ : _ ∧ k_ ≠ g))) hk (fun _ h => h.2)) (fun _ h => h.1))
        replace HL668_1 := am (Kd.V_mono (Kd.V_keep (Kd.V_mono (ok := fun k_ => (((((w.heap.size ≤ k_)) ∧ (k_ ≠ gb626 ∧ (k_ ≠ gb660 ∧ k_ ≠ g))) ∧ some k_ ≠ (.slice (some ad661) t627.length co27 : Value).ownBlock) ∧ some k_ ≠ (.slice Ao49 y685.length co49 : Value).ownBlock)) (vv HL668_1.out) (fun k_ hk_ => (⟨hk_, hk_.1.1.2.2.2⟩ : _ ∧ k_ ≠ g))) hk (fun _ h => h.2)) (fun _ h => h.1))
        replace HO679 := am (Kd.V_mono (Kd.V_keep (Kd.V_mono (ok := fun k_ => ((((w.heap.size ≤ k_)) ∧ (some k_ ≠ (.slice (some ad661) t627.length co27 : Value).ownBlock ∧ (k_ ≠ gb626 ∧ (k_ ≠ gb660 ∧ k_ ≠ g)))) ∧ some k_ ≠ (.slice Ao49 y685.length co49 : Value).ownBlock)) (vv HO679.out) (fun k_ hk_ => (⟨hk_, hk_.1.2.2.2.2⟩ : _ ∧ k_ ≠ g))) hk (fun _ h => h.2)) (fun _ h => h.1))
        replace HO687 := am (Kd.N_mono (Kd.N_keep (Kd.N_mono (ok := fun k_ => (((w.heap.size ≤ k_)) ∧ (some k_ ≠ (.slice (some ad661) t627.length co27 : Value).ownBlock ∧ (k_ ≠ gb626 ∧ (k_ ≠ gb660 ∧ k_ ≠ g))))) (nn HO687.out) (fun k_ hk_ => (⟨hk_, hk_.2.2.2.2⟩ : _ ∧ k_ ≠ g))) hk (fun _ h => h.2)) (fun _ h => h.1))
        have HO697 := am (Kd.V_lower (Kd.V_mono (ok' := fun k_ => (w.heap.size ≤ k_) ∧ some k_ ≠ (.slice (some ad661) t627.length co27 : Value).ownBlock ∧ k_ ≠ gb626 ∧ k_ ≠ gb660 ∧ k_ ≠ g) ho0 (fun k_ hk_ => ⟨Or.elim hk_ (fun hs_ => hs_.1) (fun hn_ => (Nat.le_trans (keep_size (w := w) (g := g) (row := none) (kz HK.out)) hn_)), Or.elim hk_ (fun hs_ => hs_.2.1) (fun hn_ => (Kd.fresh' (Kd.N_lt (nn HO_7.out)) k_ hn_)), Or.elim hk_ (fun hs_ => hs_.2.2.1) (fun hn_ => (Kd.freshB (bk BK626.out) k_ hn_)), Or.elim hk_ (fun hs_ => hs_.2.2.2.1) (fun hn_ => (Kd.freshB (bk BK660.out) k_ hn_)), Or.elim hk_ (fun hs_ => hs_.2.2.2.2) (fun hn_ => (IsS63.fresh (hz HI0.out) k_ hn_))⟩)) (keep_size (w := w) (g := g) (row := none) (kz HK.out)))
        replace HO_7 := am (Kd.N_mono (Kd.N_keep (Kd.N_mono (ok := fun k_ => ((((w.heap.size ≤ k_)) ∧ (k_ ≠ gb626 ∧ (k_ ≠ gb660 ∧ k_ ≠ g))) ∧ some k_ ≠ (.slice Ao49 y685.length co49 : Value).ownBlock)) (nn HO_7.out) (fun k_ hk_ => (⟨hk_, hk_.1.2.2.2⟩ : _ ∧ k_ ≠ g))) hk (fun _ h => h.2)) (fun _ h => h.1))
        replace BK626 := am (KeepBut.blk hk (bk BK626.out) NB626_0.out (by simp))
        replace BK660 := am (KeepBut.blk hk (bk BK660.out) NB660_0.out (by simp))
        replace HK := am (KeepBut.trans (kz HK.out) hk (.inl rfl))
        replace HB := am (hb)
        replace HI0 := am (hi)
        (try clear hb)
        (try clear hb2)
        (try clear hk)
        (try clear hi)
        (try clear ho0)
        obtain ⟨Ao58, co58, eo58⟩ := Kd.V_slice HO697.out
        (first | subst eo58 | (injection eo58 with f1_ f2_ f3_; have f4_ := f1_.symm; have f5_ := f3_.symm; clear f1_ f2_ f3_; subst f4_; subst f5_))
        refine hK.out _ _ ⟨(blk_cell BK660.out 0).trans rfl, (blk_cell BK660.out 1).trans rfl, (blk_cell BK660.out 2).trans rfl, (blk_cell BK660.out 3).trans rfl, (blk_cell BK660.out 4).trans rfl, (blk_cell BK660.out 5).trans rfl, (blk_cell BK660.out 6).trans rfl, (blk_cell BK660.out 7).trans rfl, HS8_, HS9_, HS10_, HS11_⟩ (fun hHeld => ?_)
        clear hK K
        refine norm_ (a' := ?_) ?_ ?_
        rotate_left
        ·show Act.put _ (some 59) _ = _
         simp only [Act.put, List.setIfInBounds_toArray, List.set_cons_zero, List.set_cons_succ, i64_w, i32_w]
         rfl
        refine last_ (i := 17) (N := none) #[true, true, true, true, true, true, true, true, true, true, true, true, true, true, true, true, true, true] rfl rfl (one_of HT_.out (by kernel_rfl)) (by decide) (fun K hK => ?_)
        have hs51 : w50.cell? ⟨gb660, 0, none⟩ = some (.int .i64 x661000_1) := (blk_cell BK660.out 0).trans rfl
        have hfs51 := blk_frozen BK660.out 0
        have hns51_0 := NB626_660.out
        have hms51_0 := NB660_626.out
        have hs52 : w50.cell? ⟨gb660, 1, none⟩ = some (.int .i64 x661001_1) := (blk_cell BK660.out 1).trans rfl
        have hfs52 := blk_frozen BK660.out 1
        have hns52_0 := NB626_660.out
        have hms52_0 := NB660_626.out
        have hs53 : w50.cell? ⟨gb660, 2, none⟩ = some (.int .i64 x661002_1) := (blk_cell BK660.out 2).trans rfl
        have hfs53 := blk_frozen BK660.out 2
        have hns53_0 := NB626_660.out
        have hms53_0 := NB660_626.out
        have hs54 : w50.cell? ⟨gb660, 3, none⟩ = some (.int .i64 x661003_1) := (blk_cell BK660.out 3).trans rfl
        have hfs54 := blk_frozen BK660.out 3
        have hns54_0 := NB626_660.out
        have hms54_0 := NB660_626.out
        have hs55 : w50.cell? ⟨gb660, 4, none⟩ = some (.string x661004_1) := (blk_cell BK660.out 4).trans rfl
        have hfs55 := blk_frozen BK660.out 4
        have hns55_0 := NB626_660.out
        have hms55_0 := NB660_626.out
        have hs56 : w50.cell? ⟨gb660, 5, none⟩ = some (.int .i64 x661005_1) := (blk_cell BK660.out 5).trans rfl
        have hfs56 := blk_frozen BK660.out 5
        have hns56_0 := NB626_660.out
        have hms56_0 := NB660_626.out
        have hs57 : w50.cell? ⟨gb660, 6, none⟩ = some (.string x661006_1) := (blk_cell BK660.out 6).trans rfl
        have hfs57 := blk_frozen BK660.out 6
        have hns57_0 := NB626_660.out
        have hms57_0 := NB660_626.out
        have hs59 : w50.cell? ⟨gb660, 7, none⟩ = some (.slice Ao45 x661007_1.length co45) := (blk_cell BK660.out 7).trans rfl
        have hfs59 := blk_frozen BK660.out 7
        have hns59_0 := NB626_660.out
        have hms59_0 := NB660_626.out
        refine skip_ (w1 := ?_) (by rfl) rfl ?_ ?_
        rotate_left
        ·go_simp
         rfl
        refine hK.out _ _ ?_
        clear hK K
        refine done_ (done_of HT_.out (by kernel_rfl)) ?_
        have n0_ : Aside0 (Kd.N k143 143 ((((((((w50.setCell ⟨gb660, 0, none⟩ (.int .i64 t688)).setCell ⟨gb660, 1, none⟩ (.int .i64 t689)).setCell ⟨gb660, 2, none⟩ (.int .i64 t690)).setCell ⟨gb660, 3, none⟩ (.int .i64 t691)).setCell ⟨gb660, 4, none⟩ (.string t692)).setCell ⟨gb660, 5, none⟩ (.int .i64 t693)).setCell ⟨gb660, 6, none⟩ (.string t694)).setCell ⟨gb660, 7, none⟩ (.slice Ao58 t695.length co58)) w.heap.size (fun k_ => (w.heap.size ≤ k_) ∧ some k_ ≠ (.slice Ao49 y685.length co49 : Value).ownBlock ∧ k_ ≠ gb626 ∧ k_ ≠ gb660 ∧ k_ ≠ g) (.slice (some ad661) t627.length co27) t627) := ⟨vfN (Kd.N_mono HO_7.out (fun k_ hk => (⟨hk, hk.1.2.2.1⟩ : _ ∧ k_ ≠ gb660)))⟩
        have n1_ : Aside0 (Kd.V k31 31 ((((((((w50.setCell ⟨gb660, 0, none⟩ (.int .i64 t688)).setCell ⟨gb660, 1, none⟩ (.int .i64 t689)).setCell ⟨gb660, 2, none⟩ (.int .i64 t690)).setCell ⟨gb660, 3, none⟩ (.int .i64 t691)).setCell ⟨gb660, 4, none⟩ (.string t692)).setCell ⟨gb660, 5, none⟩ (.int .i64 t693)).setCell ⟨gb660, 6, none⟩ (.string t694)).setCell ⟨gb660, 7, none⟩ (.slice Ao58 t695.length co58)) w.heap.size (fun k_ => (w.heap.size ≤ k_) ∧ some k_ ≠ (.slice (some ad661) t627.length co27 : Value).ownBlock ∧ some k_ ≠ (.slice Ao49 y685.length co49 : Value).ownBlock ∧ k_ ≠ gb626 ∧ k_ ≠ gb660 ∧ k_ ≠ g) (.slice Ao45 x661007_1.length co45) x661007_1) := ⟨vfV (Kd.V_mono HO_661007.out (fun k_ hk => (⟨hk, hk.1.2.2.2.1⟩ : _ ∧ k_ ≠ gb660)))⟩
        have n2_ : Aside0 (Kd.V Kd.string 9 ((((((((w50.setCell ⟨gb660, 0, none⟩ (.int .i64 t688)).setCell ⟨gb660, 1, none⟩ (.int .i64 t689)).setCell ⟨gb660, 2, none⟩ (.int .i64 t690)).setCell ⟨gb660, 3, none⟩ (.int .i64 t691)).setCell ⟨gb660, 4, none⟩ (.string t692)).setCell ⟨gb660, 5, none⟩ (.int .i64 t693)).setCell ⟨gb660, 6, none⟩ (.string t694)).setCell ⟨gb660, 7, none⟩ (.slice Ao58 t695.length co58)) w.heap.size (fun k_ => (w.heap.size ≤ k_) ∧ some k_ ≠ (.slice (some ad661) t627.length co27 : Value).ownBlock ∧ some k_ ≠ (.slice Ao49 y685.length co49 : Value).ownBlock ∧ k_ ≠ gb626 ∧ k_ ≠ gb660 ∧ k_ ≠ g) (.slice A661_0 ((rd_T143 t627 a2).f0).length c661_0) ((rd_T143 t627 a2).f0)) := ⟨vfV (Kd.V_mono HL661_0.out (fun k_ hk => (⟨hk, hk.1.2.2.2.1⟩ : _ ∧ k_ ≠ gb660)))⟩
        have n3_ : Aside0 (Kd.V (Kd.int .i64) 3 ((((((((w50.setCell ⟨gb660, 0, none⟩ (.int .i64 t688)).setCell ⟨gb660, 1, none⟩ (.int .i64 t689)).setCell ⟨gb660, 2, none⟩ (.int .i64 t690)).setCell ⟨gb660, 3, none⟩ (.int .i64 t691)).setCell ⟨gb660, 4, none⟩ (.string t692)).setCell ⟨gb660, 5, none⟩ (.int .i64 t693)).setCell ⟨gb660, 6, none⟩ (.string t694)).setCell ⟨gb660, 7, none⟩ (.slice Ao58 t695.length co58)) w.heap.size (fun k_ => (w.heap.size ≤ k_) ∧ some k_ ≠ (.slice (some ad661) t627.length co27 : Value).ownBlock ∧ some k_ ≠ (.slice Ao49 y685.length co49 : Value).ownBlock ∧ k_ ≠ gb626 ∧ k_ ≠ gb660 ∧ k_ ≠ g) (.slice A661_1 ((rd_T143 t627 a2).f1).length c661_1) ((rd_T143 t627 a2).f1)) := ⟨vfV (Kd.V_mono HL661_1.out (fun k_ hk => (⟨hk, hk.1.2.2.2.1⟩ : _ ∧ k_ ≠ gb660)))⟩
        have n4_ : Aside0 (Kd.V Kd.string 9 ((((((((w50.setCell ⟨gb660, 0, none⟩ (.int .i64 t688)).setCell ⟨gb660, 1, none⟩ (.int .i64 t689)).setCell ⟨gb660, 2, none⟩ (.int .i64 t690)).setCell ⟨gb660, 3, none⟩ (.int .i64 t691)).setCell ⟨gb660, 4, none⟩ (.string t692)).setCell ⟨gb660, 5, none⟩ (.int .i64 t693)).setCell ⟨gb660, 6, none⟩ (.string t694)).setCell ⟨gb660, 7, none⟩ (.slice Ao58 t695.length co58)) w.heap.size (fun k_ => (w.heap.size ≤ k_) ∧ some k_ ≠ (.slice (some ad661) t627.length co27 : Value).ownBlock ∧ some k_ ≠ (.slice Ao49 y685.length co49 : Value).ownBlock ∧ k_ ≠ gb626 ∧ k_ ≠ gb660 ∧ k_ ≠ g) (.slice A668_0 ((rd_T143 t627 a2).f0).length c668_0) ((rd_T143 t627 a2).f0)) := ⟨vfV (Kd.V_mono HL668_0.out (fun k_ hk => (⟨hk, hk.1.1.2.2.1⟩ : _ ∧ k_ ≠ gb660)))⟩
        have n5_ : Aside0 (Kd.V (Kd.int .i64) 3 ((((((((w50.setCell ⟨gb660, 0, none⟩ (.int .i64 t688)).setCell ⟨gb660, 1, none⟩ (.int .i64 t689)).setCell ⟨gb660, 2, none⟩ (.int .i64 t690)).setCell ⟨gb660, 3, none⟩ (.int .i64 t691)).setCell ⟨gb660, 4, none⟩ (.string t692)).setCell ⟨gb660, 5, none⟩ (.int .i64 t693)).setCell ⟨gb660, 6, none⟩ (.string t694)).setCell ⟨gb660, 7, none⟩ (.slice Ao58 t695.length co58)) w.heap.size (fun k_ => (w.heap.size ≤ k_) ∧ some k_ ≠ (.slice (some ad661) t627.length co27 : Value).ownBlock ∧ some k_ ≠ (.slice Ao49 y685.length co49 : Value).ownBlock ∧ k_ ≠ gb626 ∧ k_ ≠ gb660 ∧ k_ ≠ g) (.slice (some ad669) ((rd_T143 t627 a2).f1).length c668_1) ((rd_T143 t627 a2).f1)) := ⟨vfV (Kd.V_mono HL668_1.out (fun k_ hk => (⟨hk, hk.1.1.2.2.1⟩ : _ ∧ k_ ≠ gb660)))⟩
        have n6_ : Aside0 (Kd.V k31 31 ((((((((w50.setCell ⟨gb660, 0, none⟩ (.int .i64 t688)).setCell ⟨gb660, 1, none⟩ (.int .i64 t689)).setCell ⟨gb660, 2, none⟩ (.int .i64 t690)).setCell ⟨gb660, 3, none⟩ (.int .i64 t691)).setCell ⟨gb660, 4, none⟩ (.string t692)).setCell ⟨gb660, 5, none⟩ (.int .i64 t693)).setCell ⟨gb660, 6, none⟩ (.string t694)).setCell ⟨gb660, 7, none⟩ (.slice Ao58 t695.length co58)) w.heap.size (fun k_ => (w.heap.size ≤ k_) ∧ some k_ ≠ (.slice (some ad661) t627.length co27 : Value).ownBlock ∧ some k_ ≠ (.slice Ao49 y685.length co49 : Value).ownBlock ∧ k_ ≠ gb626 ∧ k_ ≠ gb660 ∧ k_ ≠ g) (.slice Ao46 t677.length co46) t677) := ⟨vfV (Kd.V_mono HO679.out (fun k_ hk => (⟨hk, hk.1.2.2.2.1⟩ : _ ∧ k_ ≠ gb660)))⟩
        have n7_ : Aside0 (Kd.N k31 31 ((((((((w50.setCell ⟨gb660, 0, none⟩ (.int .i64 t688)).setCell ⟨gb660, 1, none⟩ (.int .i64 t689)).setCell ⟨gb660, 2, none⟩ (.int .i64 t690)).setCell ⟨gb660, 3, none⟩ (.int .i64 t691)).setCell ⟨gb660, 4, none⟩ (.string t692)).setCell ⟨gb660, 5, none⟩ (.int .i64 t693)).setCell ⟨gb660, 6, none⟩ (.string t694)).setCell ⟨gb660, 7, none⟩ (.slice Ao58 t695.length co58)) w.heap.size (fun k_ => (w.heap.size ≤ k_) ∧ some k_ ≠ (.slice (some ad661) t627.length co27 : Value).ownBlock ∧ k_ ≠ gb626 ∧ k_ ≠ gb660 ∧ k_ ≠ g) (.slice Ao49 y685.length co49) y685) := ⟨vfN HO687.out⟩
        have n8_ : Aside0 (Kd.V k31 31 ((((((((w50.setCell ⟨gb660, 0, none⟩ (.int .i64 t688)).setCell ⟨gb660, 1, none⟩ (.int .i64 t689)).setCell ⟨gb660, 2, none⟩ (.int .i64 t690)).setCell ⟨gb660, 3, none⟩ (.int .i64 t691)).setCell ⟨gb660, 4, none⟩ (.string t692)).setCell ⟨gb660, 5, none⟩ (.int .i64 t693)).setCell ⟨gb660, 6, none⟩ (.string t694)).setCell ⟨gb660, 7, none⟩ (.slice Ao58 t695.length co58)) w.heap.size (fun k_ => (w.heap.size ≤ k_) ∧ some k_ ≠ (.slice (some ad661) t627.length co27 : Value).ownBlock ∧ k_ ≠ gb626 ∧ k_ ≠ gb660 ∧ k_ ≠ g) (.slice Ao58 t695.length co58) t695) := ⟨vfV HO697.out⟩
        have n9_ : Aside0 (((((((((w50.setCell ⟨gb660, 0, none⟩ (.int .i64 t688)).setCell ⟨gb660, 1, none⟩ (.int .i64 t689)).setCell ⟨gb660, 2, none⟩ (.int .i64 t690)).setCell ⟨gb660, 3, none⟩ (.int .i64 t691)).setCell ⟨gb660, 4, none⟩ (.string t692)).setCell ⟨gb660, 5, none⟩ (.int .i64 t693)).setCell ⟨gb660, 6, none⟩ (.string t694)).setCell ⟨gb660, 7, none⟩ (.slice Ao58 t695.length co58)).heap[gb626]? = some (.cells #[.int .i64 0, .int .i64 0, .int .i64 0, .int .i64 0, .string (⟨#[]⟩ : ByteArray), .int .i64 0, .string (⟨#[]⟩ : ByteArray), .slice none 0 0] 31 (0, 0))) := ⟨bp BK626.out⟩
        have n10_ : Aside0 (((((((((w50.setCell ⟨gb660, 0, none⟩ (.int .i64 t688)).setCell ⟨gb660, 1, none⟩ (.int .i64 t689)).setCell ⟨gb660, 2, none⟩ (.int .i64 t690)).setCell ⟨gb660, 3, none⟩ (.int .i64 t691)).setCell ⟨gb660, 4, none⟩ (.string t692)).setCell ⟨gb660, 5, none⟩ (.int .i64 t693)).setCell ⟨gb660, 6, none⟩ (.string t694)).setCell ⟨gb660, 7, none⟩ (.slice Ao58 t695.length co58)).heap[gb660]? = some (.cells #[.int .i64 t688, .int .i64 t689, .int .i64 t690, .int .i64 t691, .string t692, .int .i64 t693, .string t694, .slice Ao58 t695.length co58] 31 (0, 0))) := ⟨bp BK660.out⟩
        have n11_ : Aside0 (IsS63 w0 ((((((((w50.setCell ⟨gb660, 0, none⟩ (.int .i64 t688)).setCell ⟨gb660, 1, none⟩ (.int .i64 t689)).setCell ⟨gb660, 2, none⟩ (.int .i64 t690)).setCell ⟨gb660, 3, none⟩ (.int .i64 t691)).setCell ⟨gb660, 4, none⟩ (.string t692)).setCell ⟨gb660, 5, none⟩ (.int .i64 t693)).setCell ⟨gb660, 6, none⟩ (.string t694)).setCell ⟨gb660, 7, none⟩ (.slice Ao58 t695.length co58)) g s0_0 t698 t699 t700 t701 t702) := ⟨hz HI0.out⟩
        have n12_ : Aside0 (KeepBut w ((((((((w50.setCell ⟨gb660, 0, none⟩ (.int .i64 t688)).setCell ⟨gb660, 1, none⟩ (.int .i64 t689)).setCell ⟨gb660, 2, none⟩ (.int .i64 t690)).setCell ⟨gb660, 3, none⟩ (.int .i64 t691)).setCell ⟨gb660, 4, none⟩ (.string t692)).setCell ⟨gb660, 5, none⟩ (.int .i64 t693)).setCell ⟨gb660, 6, none⟩ (.string t694)).setCell ⟨gb660, 7, none⟩ (.slice Ao58 t695.length co58)) g none) := ⟨kz HK.out⟩
        have n13_ : Aside0 (Below w0.heap.size w0 ((((((((w50.setCell ⟨gb660, 0, none⟩ (.int .i64 t688)).setCell ⟨gb660, 1, none⟩ (.int .i64 t689)).setCell ⟨gb660, 2, none⟩ (.int .i64 t690)).setCell ⟨gb660, 3, none⟩ (.int .i64 t691)).setCell ⟨gb660, 4, none⟩ (.string t692)).setCell ⟨gb660, 5, none⟩ (.int .i64 t693)).setCell ⟨gb660, 6, none⟩ (.string t694)).setCell ⟨gb660, 7, none⟩ (.slice Ao58 t695.length co58))) := ⟨bz HB.out⟩
        (try clear HO_7)
        (try clear HO_661007)
        (try clear HL661_0)
        (try clear HL661_1)
        (try clear HL668_0)
        (try clear HL668_1)
        (try clear HO679)
        (try clear HO687)
        (try clear HO697)
        (try clear BK626)
        (try clear BK660)
        (try clear HI0)
        (try clear HK)
        (try clear HB)
        generalize ((((((((w50.setCell ⟨gb660, 0, none⟩ (.int .i64 t688)).setCell ⟨gb660, 1, none⟩ (.int .i64 t689)).setCell ⟨gb660, 2, none⟩ (.int .i64 t690)).setCell ⟨gb660, 3, none⟩ (.int .i64 t691)).setCell ⟨gb660, 4, none⟩ (.string t692)).setCell ⟨gb660, 5, none⟩ (.int .i64 t693)).setCell ⟨gb660, 6, none⟩ (.string t694)).setCell ⟨gb660, 7, none⟩ (.slice Ao58 t695.length co58)) = w60 at n0_ n1_ n2_ n3_ n4_ n5_ n6_ n7_ n8_ n9_ n10_ n11_ n12_ n13_ ⊢
        have HO_7 := n0_
        have HO_661007 := n1_
        have HL661_0 := n2_
        have HL661_1 := n3_
        have HL668_0 := n4_
        have HL668_1 := n5_
        have HO679 := n6_
        have HO687 := n7_
        have HO697 := n8_
        have BK626 := n9_
        have BK660 := n10_
        have HI0 := n11_
        have HK := n12_
        have HB := n13_
        clear n0_ n1_ n2_ n3_ n4_ n5_ n6_ n7_ n8_ n9_ n10_ n11_ n12_ n13_
        have p703 : 0 ≤ (a2 : Int) := of_decide_eq_true tz
        have q703 : a2 < (t627.length : Int) := of_decide_eq_true tz
        obtain ⟨ad703, A703_0, c703_0, A703_1, c703_1, e703, hx703_0, hx703_1, hx703_2, hl703_0, hi703_0, hl703_1, hi703_1⟩ := at_T143 (Kd.N_reads' HO_7.out).2.2 a2 p703 q703
        obtain rfl : ad661 = ad703 := (by injection e703)
        obtain ⟨ce703, hce703, hMe703, hcc703⟩ := Kd.N_get HO_7.out z143 a2 p703 (by first | exact q703 | exact of_decide_eq_true tz | (have e_ := (Kd.N_reads' HO_7.out).1; omega))
        obtain ⟨ua703_0, uc703_0, ua703_1, uc703_1, rfl, ul703_0, ge703_0, ul703_1, ge703_1⟩ := k143_openF hMe703
        have hv703_0 := hcc703 0 _ rfl
        rw [Nat.add_zero] at hv703_0
        replace hv703_0 := Option.some.inj (hv703_0.symm.trans hx703_0)
        injection hv703_0 with hva_ hvn_ hvc_
        rw [hva_] at ge703_0
        rw [hvc_] at ul703_0
        have HL703_0 := am (show Kd.V Kd.string 9 _ w.heap.size _ _ ((rd_T143 t627 a2).f0) from Kd.V_mk ul703_0 ge703_0)
        clear hva_ hvn_ hvc_ ge703_0 ul703_0
        have hv703_1 := hcc703 1 _ rfl
        rw [add_field _ _ 1 (by omega)] at hv703_1
        replace hv703_1 := Option.some.inj (hv703_1.symm.trans hx703_1)
        injection hv703_1 with hva_ hvn_ hvc_
        rw [hva_] at ge703_1
        rw [hvc_] at ul703_1
        have HL703_1 := am (show Kd.V (Kd.int .i64) 3 _ w.heap.size _ _ ((rd_T143 t627 a2).f1) from Kd.V_mk ul703_1 ge703_1)
        clear hva_ hvn_ hvc_ ge703_1 ul703_1 hcc703 hce703
        have HR703_0 := am hi703_0
        have HC703_0 := am hl703_0
        clear hi703_0 hl703_0
        have HR703_1 := am hi703_1
        have HC703_1 := am hl703_1
        clear hi703_1 hl703_1
        replace p703 := eq_true p703
        replace q703 := eq_true q703
        go_upto_if 64 with (fail)
        have H := HC40.out
        clear HC40
        clear Z41_0 Z41_1 Z41_2 Z41_3 Z41_4 Z41_5 F41_1 F41_2 F41_3 F41_4 F41_5 hx668_0 hx669_0 hx703_0 hx668_1 hx668_2 hx703_1 hx703_2
        obtain ⟨bq61, hbq61⟩ : ∃ b_ : Bool, b_ = ((rd_T143 t627 a2).f2) := ⟨_, rfl⟩
        replace H : (if bq61 = true then (some (t688, t689, t690, t691, t692, t693, t694, t695, t698, t699, t700, t701, t702)) else (expr_Parser_chain.l0 k1 a1 a2 t627 s0_0 t698 t699 t700 t701 t702 t688 t689 t690 t691 t692 t693 t694 t695)) = some (r1, r2, r3, r4, r5, r6, r7, r8, r9, r10, r11, r12, r13) := by rw [← hbq61] at H; exact H
        have Nbq61 := am hbq61
        clear hbq61
        (try rw [← Nbq61.out])
        by_cases c62 : bq61 = true
        ·subst c62
         replace H := ift H
         simp only [Option.some.injEq, Prod.mk.injEq] at H
         obtain ⟨rfl, rfl, rfl, rfl, rfl, rfl, rfl, rfl, rfl, rfl, rfl, rfl, rfl⟩ := H
         have hnb63 := NB660_626.out
         have hnc63 := NB626_660.out
         have hnb64 := NB660_0.out
         have hnc64 := NB0_660.out
         obtain ⟨Z65_0, Z65_1, Z65_2, Z65_3, Z65_4, Z65_5, Z65_6, Z65_7, F65_0, F65_1, F65_2, F65_3, F65_4, F65_5, F65_6, F65_7⟩ := cz8 BK660.out
         have hnb66 := NB626_0.out
         have hnc66 := NB0_626.out
         obtain ⟨Z67_0, Z67_1, Z67_2, Z67_3, Z67_4, Z67_5, Z67_6, Z67_7, F67_0, F67_1, F67_2, F67_3, F67_4, F67_5, F67_6, F67_7⟩ := cz8 BK626.out
         go_wp2
         refine bodyPost_ret (results_cell_row rfl _ _ gb626 31 #[.int .i64 t688, .int .i64 t689, .int .i64 t690, .int .i64 t691, .string t692, .int .i64 t693, .string t694, .slice Ao58 t695.length co58] (0, 0) _ rfl (bp BK626.out) Tryz.underlying31 rfl (by kernel_rfl)) rfl ?_
         exact ⟨_, az, by (with_reducible repeat (first | apply Kd.V_alloc | apply Kd.V_drewN | apply Kd.V_drew)); exact Kd.V_mono (Kd.V_far (p := ⟨gb626, 7, none⟩) (Kd.V_far (p := ⟨gb626, 6, none⟩) (Kd.V_far (p := ⟨gb626, 5, none⟩) (Kd.V_far (p := ⟨gb626, 4, none⟩) (Kd.V_far (p := ⟨gb626, 3, none⟩) (Kd.V_far (p := ⟨gb626, 2, none⟩) (Kd.V_far (p := ⟨gb626, 1, none⟩) (Kd.V_far (p := ⟨gb626, 0, none⟩) (Kd.V_mono HO697.out (fun k_ hk => (⟨hk, hk.2.2.1⟩ : _ ∧ k_ ≠ gb626))) (fun _ hk => hk.2) (.int .i64 t688)) (fun _ hk => hk.2) (.int .i64 t689)) (fun _ hk => hk.2) (.int .i64 t690)) (fun _ hk => hk.2) (.int .i64 t691)) (fun _ hk => hk.2) (.string t692)) (fun _ hk => hk.2) (.int .i64 t693)) (fun _ hk => hk.2) (.string t694)) (fun _ hk => hk.2) (.slice Ao58 t695.length co58)) (fun _ hk => hk.1.1), hz HI0.out, bz HB.out, kz HK.out⟩
        replace c62 := Bool.eq_false_iff.mpr c62
        subst c62
        replace H := iff_ H
        have H' := am H
        clear H
        go_wp2
        go_roundg k1
        case measure => have := HK1.out; omega
        case rel => exact ⟨(t698), (t699), (t700), (t701), (t702), (t688), (t689), (t690), (t691), (t692), (t693), (t694), (t695), (.slice Ao58 t695.length co58), H', ⟨by have := HK1.out; omega⟩, ⟨by (with_reducible repeat (first | apply Kd.N_alloc | apply Kd.N_drewN | apply Kd.N_drew)); exact Kd.N_mono HO_7.out (fun _ hk => ⟨hk.1, ⟨hk.2.2.1, ⟨hk.2.2.2.1, hk.2.2.2.2⟩⟩⟩)⟩, ⟨vv HO697.out⟩, ⟨bk BK626.out⟩, ⟨bk BK660.out⟩, ⟨hz HI0.out⟩, ⟨kz HK.out⟩, ⟨bz HB.out⟩⟩
       rw [if_neg c37] at H
       exact absurd H (by simp)
      rw [if_neg c36] at H
      exact absurd H (by simp)
     rw [if_neg c23] at H
     exact absurd H (by simp)
    rw [if_neg c22] at H
    exact absurd H (by simp)
   rw [if_neg c21] at H
   exact absurd H (by simp)
end Go.Proofs.YtgkemhgihbfmmaaGreatDoor.PA
end
section
namespace Go.Proofs.YtgkemhgihbfmmaaGreatDoor.PA
open Go.RowKit Go.Proofs.YtgkemhgihbfmmaaGreatDoorW.PrintWords Go.Proofs.YtgkemhgihbfmmaaGreatDoorW.PrintLast Go.Proofs.YtgkemhgihbfmmaaGreatDoorW.PrintMore
attribute [local go_sem] max2_int min2_int max_two min_two max_three min_three max_four min_four isSome_set str_gtr
set_option linter.unusedVariables false
set_option linter.unusedSimpArgs false
def expr_Parser_Expr.T9 : Bool × List (List Nat × List Nat) := (true, [([], []), ([], []), ([], []), ([], []), ([], []), ([3, 4], [3, 4]), ([1, 2, 5], [1, 2, 5]), ([0, 6, 5], [0, 6]), ([7, 7, 0, 1, 2, 3, 4, 5, 6, 7], [7])])
def expr_Parser_Expr.B9 : List Nat := [0, 0, 0, 0, 0, 24, 62, 127, 255]
theorem expr_Parser_Expr.tab9 : rtab .any (opsOf Tryz.f31 9) = expr_Parser_Expr.T9 := by kernel_rfl
theorem expr_Parser_Expr.bits9 : waitsOk expr_Parser_Expr.T9.2 expr_Parser_Expr.B9 = true := by kernel_rfl
set_option maxHeartbeats 8000000 in
set_option maxRecDepth 100000 in
theorem expr_Parser_Expr.step (k : Nat) (ih_expr_Parser_prefix : ∀ k', k' < k → ∀ (g : Nat) (s0_0 : List (S136)) (s0_1 s0_2 s0_3 s0_4 s0_5 a1 r1 r2 r3 r4 : Int) (r5 : ByteArray) (r6 : Int) (r7 : ByteArray) (r8 : List (S31)) (r9 r10 r11 r12 r13 : Int) (w0 w : World) (hI : IsS63 w0 w g s0_0 s0_1 s0_2 s0_3 s0_4 s0_5) (hB : Below w0.heap.size w0 w) (h : expr_Parser_prefix.f k' s0_0 s0_1 s0_2 s0_3 s0_4 s0_5 a1 = some (r1, r2, r3, r4, r5, r6, r7, r8, r9, r10, r11, r12, r13)),
  Calls Tryz.prog 109 #[.pointer (some ⟨g, 0, none⟩), .int .i64 a1] w fun e w' => ∃ v7_ : Value, e = .returned (.agg #[.int .i64 r1, .int .i64 r2, .int .i64 r3, .int .i64 r4, .string r5, .int .i64 r6, .string r7, v7_]) ∧ Kd.V k31 31 w' w.heap.size (fun k_ => (w.heap.size ≤ k_)) v7_ r8 ∧ IsS63 w0 w' g s0_0 r9 r10 r11 r12 r13 ∧ Below w0.heap.size w0 w' ∧ KeepBut w w' g none) (ih_expr_Parser_chain : ∀ k', k' < k → ∀ (g : Nat) (s0_0 : List (S136)) (s0_1 s0_2 s0_3 s0_4 s0_5 a1 a2 r1 r2 r3 r4 : Int) (r5 : ByteArray) (r6 : Int) (r7 : ByteArray) (r8 : List (S31)) (r9 r10 r11 r12 r13 : Int) (w0 w : World) (hI : IsS63 w0 w g s0_0 s0_1 s0_2 s0_3 s0_4 s0_5) (hB : Below w0.heap.size w0 w) (h : expr_Parser_chain.f k' s0_0 s0_1 s0_2 s0_3 s0_4 s0_5 a1 a2 = some (r1, r2, r3, r4, r5, r6, r7, r8, r9, r10, r11, r12, r13)),
  Calls Tryz.prog 64 #[.pointer (some ⟨g, 0, none⟩), .int .i64 a1, .int .i64 a2] w fun e w' => ∃ v7_ : Value, e = .returned (.agg #[.int .i64 r1, .int .i64 r2, .int .i64 r3, .int .i64 r4, .string r5, .int .i64 r6, .string r7, v7_]) ∧ Kd.V k31 31 w' w.heap.size (fun k_ => (w.heap.size ≤ k_)) v7_ r8 ∧ IsS63 w0 w' g s0_0 r9 r10 r11 r12 r13 ∧ Below w0.heap.size w0 w' ∧ KeepBut w w' g none) (ih_expr_Parser_Expr : ∀ k', k' < k → ∀ (g : Nat) (s0_0 : List (S136)) (s0_1 s0_2 s0_3 s0_4 s0_5 a1 r1 r2 r3 r4 : Int) (r5 : ByteArray) (r6 : Int) (r7 : ByteArray) (r8 : List (S31)) (r9 r10 r11 r12 r13 : Int) (w0 w : World) (hI : IsS63 w0 w g s0_0 s0_1 s0_2 s0_3 s0_4 s0_5) (hB : Below w0.heap.size w0 w) (h : expr_Parser_Expr.f k' s0_0 s0_1 s0_2 s0_3 s0_4 s0_5 a1 = some (r1, r2, r3, r4, r5, r6, r7, r8, r9, r10, r11, r12, r13)),
  Calls Tryz.prog 31 #[.pointer (some ⟨g, 0, none⟩), .int .i64 a1] w fun e w' => ∃ v7_ : Value, e = .returned (.agg #[.int .i64 r1, .int .i64 r2, .int .i64 r3, .int .i64 r4, .string r5, .int .i64 r6, .string r7, v7_]) ∧ Kd.V k31 31 w' w.heap.size (fun k_ => (w.heap.size ≤ k_)) v7_ r8 ∧ IsS63 w0 w' g s0_0 r9 r10 r11 r12 r13 ∧ Below w0.heap.size w0 w' ∧ KeepBut w w' g none) : ∀ (g : Nat) (s0_0 : List (S136)) (s0_1 s0_2 s0_3 s0_4 s0_5 a1 r1 r2 r3 r4 : Int) (r5 : ByteArray) (r6 : Int) (r7 : ByteArray) (r8 : List (S31)) (r9 r10 r11 r12 r13 : Int) (w0 w : World) (hI : IsS63 w0 w g s0_0 s0_1 s0_2 s0_3 s0_4 s0_5) (hB : Below w0.heap.size w0 w) (h : expr_Parser_Expr.f k s0_0 s0_1 s0_2 s0_3 s0_4 s0_5 a1 = some (r1, r2, r3, r4, r5, r6, r7, r8, r9, r10, r11, r12, r13)),
  Calls Tryz.prog 31 #[.pointer (some ⟨g, 0, none⟩), .int .i64 a1] w fun e w' => ∃ v7_ : Value, e = .returned (.agg #[.int .i64 r1, .int .i64 r2, .int .i64 r3, .int .i64 r4, .string r5, .int .i64 r6, .string r7, v7_]) ∧ Kd.V k31 31 w' w.heap.size (fun k_ => (w.heap.size ≤ k_)) v7_ r8 ∧ IsS63 w0 w' g s0_0 r9 r10 r11 r12 r13 ∧ Below w0.heap.size w0 w' ∧ KeepBut w w' g none := by
 intro g s0_0 s0_1 s0_2 s0_3 s0_4 s0_5 a1 r1 r2 r3 r4 r5 r6 r7 r8 r9 r10 r11 r12 r13 w0 w hI hB h
 cases k with
 | zero => exact absurd h (by simp [expr_Parser_Expr.f])
 | succ k =>
 simp only [expr_Parser_Expr.f] at h
 have hu31 := Tryz.underlying31
 have HI0 := am hI
 have HK := am (KeepBut.refl w g none)
 have HL := am hB.size
 clear hI
 have HW0 := am hB.size
 have HB := am hB
 clear hB
 have H : (if a1 > 64 then (none) else (if s0_4 = 0 then ((expr_Parser_Take.f k s0_0 s0_1 s0_2 s0_3 s0_4 s0_5 (⟨#[105, 102]⟩ : ByteArray)).bind fun bt705 => (expr_Parser_Expr.j0 k a1 (!bt705.1) s0_0 bt705.2.1 bt705.2.2.1 bt705.2.2.2.1 bt705.2.2.2.2.1 bt705.2.2.2.2.2)) else (expr_Parser_Expr.j0 k a1 true s0_0 s0_1 s0_2 s0_3 s0_4 s0_5))) = some (r1, r2, r3, r4, r5, r6, r7, r8, r9, r10, r11, r12, r13) := h
 clear h
 by_cases c3 : a1 > 64
 ·rw [if_pos c3] at H
  exact absurd H (by simp)
 rw [if_neg c3] at H
 have c3b0 : decide (64 < a1) = false := decide_eq_false c3
 clear c3
 have HC4 := am H
 clear H
 go_enter Tryz.func31, Tryz.ntmps31
 go_upto_region 3 with (first | ((with_reducible refine gate_dst (N := 4) rfl ?_); refine bev (#[.int .i64 0, .int .i64 0, .int .i64 0, .int .i64 0, .string (⟨#[]⟩ : ByteArray), .int .i64 0, .string (⟨#[]⟩ : ByteArray), .slice none 0 0]) 31 ?_; intro gb704 hg w5 hbox hb; replace HB := sb HB hb; have BK704 := am (hbox); have GW704 := gk hg HK; have GE704 := am (Nat.le_trans HW0.out GW704.out); replace HK := am (KeepBut.trans (kz HK.out) (KeepBut.of_below hb g none) (.inl rfl)); have NB0_704 := am ((nlt (a := g) hg (IsS63.lt (show IsS63 w0 _ g s0_0 s0_1 s0_2 s0_3 s0_4 s0_5 from hz HI0.out)))); have NB704_0 := am ((ngt (a := g) hg (IsS63.lt (show IsS63 w0 _ g s0_0 s0_1 s0_2 s0_3 s0_4 s0_5 from hz HI0.out)))); replace HI0 := am (IsS63.below (hz HI0.out) hb); clear hb hbox hg))
 (try simp only [Act.put, List.setIfInBounds_toArray, List.set_cons_zero, List.set_cons_succ])
 go_cut [20] (fun v20 wc => ∃ (kq : Nat) (x20_3 : Bool) (x1001_3 x1002_3 x1003_3 x1004_3 x1005_3 : Int), v20 = .bool x20_3 ∧ Aside0 (expr_Parser_Expr.j0 kq a1 x20_3 s0_0 x1001_3 x1002_3 x1003_3 x1004_3 x1005_3 = some (r1, r2, r3, r4, r5, r6, r7, r8, r9, r10, r11, r12, r13)) ∧ Aside0 (kq ≤ k) ∧ Aside0 (wc.heap[gb704]? = some (.cells #[.int .i64 0, .int .i64 0, .int .i64 0, .int .i64 0, .string (⟨#[]⟩ : ByteArray), .int .i64 0, .string (⟨#[]⟩ : ByteArray), (.slice none 0 0)] 31 (0, 0))) ∧ Aside0 (IsS63 w0 wc g s0_0 x1001_3 x1002_3 x1003_3 x1004_3 x1005_3) ∧ Aside0 (KeepBut w wc g none) ∧ Aside0 (Below w0.heap.size w0 wc))
 case first =>
  have H := HC4.out
  clear HC4
  by_cases c6 : s0_4 = 0
  ·replace H := ipe c6 H
   obtain ⟨H, c6b0, c6b1⟩ := H
   clear c6
   (first | rw [c6b0] | (simp only [i64_w, i32_w]; rw [c6b0]) | skip)
   replace H := obe6 H
   obtain ⟨t705, t706, t707, t708, t709, t710, A7, H⟩ := H
   have H' := am H
   clear H
   obtain ⟨ASz8_0, cSz8_0, HSz8_0, Z8_0, Z8_1, Z8_2, Z8_3, Z8_4, Z8_5, F8_1, F8_2, F8_3, F8_4, F8_5⟩ := open63 HI0.out
   go_wp2_with (first | (go_at_call 63; (with_reducible refine (expr_Parser_Take.calls k g s0_0 s0_1 s0_2 s0_3 s0_4 s0_5 (⟨#[105, 102]⟩ : ByteArray) t705 t706 t707 t708 t709 t710 w0 _ ?side1 ?side2 A7.out).mono ?_); (case side1 => exact hz HI0.out); (case side2 => exact bz HB.out); rintro e w9 ⟨rfl, hi, hb, hk⟩; replace BK704 := am (KeepBut.blk hk (bk BK704.out) NB704_0.out (by simp)); replace HK := am (KeepBut.trans (kz HK.out) hk (.inl rfl)); replace HB := am (hb); replace HI0 := am (hi); clear hb hk hi))
   go_meet
   case rel => exact ⟨_, (!t705), (t706), (t707), (t708), (t709), (t710), sz, H', ⟨oz⟩, ⟨bk BK704.out⟩, ⟨hz HI0.out⟩, ⟨kz HK.out⟩, ⟨bz HB.out⟩⟩
  replace H := ine c6 H
  obtain ⟨H, c6b0, c6b1⟩ := H
  (first | rw [c6b0] | (simp only [i64_w, i32_w]; rw [c6b0]) | skip)
  have H' := am H
  clear H
  obtain ⟨ASz10_0, cSz10_0, HSz10_0, Z10_0, Z10_1, Z10_2, Z10_3, Z10_4, Z10_5, F10_1, F10_2, F10_3, F10_4, F10_5⟩ := open63 HI0.out
  go_wp2
  go_meet
  case rel => exact ⟨_, (true), (s0_1), (s0_2), (s0_3), (s0_4), (s0_5), sz, H', ⟨oz⟩, ⟨bk BK704.out⟩, ⟨hz HI0.out⟩, ⟨kz HK.out⟩, ⟨bz HB.out⟩⟩
 case rest =>
  clear HC4
  try clear c3; try clear c3b0
  obtain ⟨kq, x20_3, x1001_3, x1002_3, x1003_3, x1004_3, x1005_3, rfl, HA, HJ3, BK704, HI0, HK, HB⟩ := hcut
  cases kq with
  | zero => exact absurd HA.out (by simp [expr_Parser_Expr.j0])
  | succ kj3 =>
   have H := HA.out
   clear HA
   simp only [expr_Parser_Expr.j0] at H
   by_cases c11 : x20_3 = true
   ·subst c11
    replace H := ift H
    replace H := obe13 H
    obtain ⟨t711, t712, t713, t714, t715, t716, t717, t718, t721, t722, t723, t724, t725, A12, H⟩ := H
    simp only [Option.some.injEq, Prod.mk.injEq] at H
    obtain ⟨rfl, rfl, rfl, rfl, rfl, rfl, rfl, rfl, rfl, rfl, rfl, rfl, rfl⟩ := H
    go_wp2_with (first | ((with_reducible refine gate_callee (f := 64) rfl ?_); refine gl_ (some 23) Tryz.func64 (by kernel_rfl) #[.pointer (some ⟨g, 0, none⟩), .int .i64 a1, .int .i64 0] rfl ?_; (with_reducible refine (ih_expr_Parser_chain kj3 (by have := HJ3.out; omega) g s0_0 x1001_3 x1002_3 x1003_3 x1004_3 x1005_3 a1 0 t711 t712 t713 t714 t715 t716 t717 t718 t721 t722 t723 t724 t725 w0 _ ?side1 ?side2 A12.out).mono ?_); (case side1 => exact hz HI0.out); (case side2 => exact bz HB.out); rintro e w13 ⟨v719, rfl, ho0, hi, hb, hk⟩; refine ⟨_, rfl, ?_⟩; have HO720 := am (Kd.V_lower (Kd.V_mono (ok' := fun k_ => (w.heap.size ≤ k_) ∧ k_ ≠ gb704 ∧ k_ ≠ g) ho0 (fun k_ hk_ => ⟨(Nat.le_trans (keep_size (w := w) (g := g) (row := none) (kz HK.out)) hk_), (Kd.freshB (bk BK704.out) k_ hk_), (IsS63.fresh (hz HI0.out) k_ hk_)⟩)) (keep_size (w := w) (g := g) (row := none) (kz HK.out))); replace BK704 := am (KeepBut.blk hk (bk BK704.out) NB704_0.out (by simp)); replace HK := am (KeepBut.trans (kz HK.out) hk (.inl rfl)); replace HB := am (hb); replace HI0 := am (hi); clear hb hk hi ho0; have hnb14 := NB704_0.out; have hnc14 := NB0_704.out; obtain ⟨Z15_0, Z15_1, Z15_2, Z15_3, Z15_4, Z15_5, Z15_6, Z15_7, F15_0, F15_1, F15_2, F15_3, F15_4, F15_5, F15_6, F15_7⟩ := cz8 BK704.out; obtain ⟨Ao16, co16, eo16⟩ := Kd.V_slice HO720.out; subst eo16))
    refine bodyPost_ret (results_cell_row rfl _ _ gb704 31 #[.int .i64 t711, .int .i64 t712, .int .i64 t713, .int .i64 t714, .string t715, .int .i64 t716, .string t717, .slice Ao16 t718.length co16] (0, 0) _ rfl (bp BK704.out) Tryz.underlying31 rfl (by kernel_rfl)) rfl ?_
    exact ⟨_, az, by (with_reducible repeat (first | apply Kd.V_alloc | apply Kd.V_drewN | apply Kd.V_drew)); exact Kd.V_mono (Kd.V_far (p := ⟨gb704, 7, none⟩) (Kd.V_far (p := ⟨gb704, 6, none⟩) (Kd.V_far (p := ⟨gb704, 5, none⟩) (Kd.V_far (p := ⟨gb704, 4, none⟩) (Kd.V_far (p := ⟨gb704, 3, none⟩) (Kd.V_far (p := ⟨gb704, 2, none⟩) (Kd.V_far (p := ⟨gb704, 1, none⟩) (Kd.V_far (p := ⟨gb704, 0, none⟩) (Kd.V_mono HO720.out (fun k_ hk => (⟨hk, hk.2.1⟩ : _ ∧ k_ ≠ gb704))) (fun _ hk => hk.2) (.int .i64 t711)) (fun _ hk => hk.2) (.int .i64 t712)) (fun _ hk => hk.2) (.int .i64 t713)) (fun _ hk => hk.2) (.int .i64 t714)) (fun _ hk => hk.2) (.string t715)) (fun _ hk => hk.2) (.int .i64 t716)) (fun _ hk => hk.2) (.string t717)) (fun _ hk => hk.2) (.slice Ao16 t718.length co16)) (fun _ hk => hk.1.1), hz HI0.out, bz HB.out, kz HK.out⟩
   replace c11 := Bool.eq_false_iff.mpr c11
   subst c11
   replace H := iff_ H
   replace H := obe13 H
   obtain ⟨t726, t727, t728, t729, t730, t731, t732, t733, t736, t737, t738, t739, t740, A17, H⟩ := H
   replace H := obe5 H
   obtain ⟨t742, t743, t744, t745, t746, A18, H⟩ := H
   replace H := obe13 H
   obtain ⟨t747, t748, t749, t750, t751, t752, t753, t754, t757, t758, t759, t760, t761, A19, H⟩ := H
   replace H := obe5 H
   obtain ⟨t763, t764, t765, t766, t767, A20, H⟩ := H
   replace H := obe13 H
   obtain ⟨t768, t769, t770, t771, t772, t773, t774, t775, t778, t779, t780, t781, t782, A21, H⟩ := H
   obtain ⟨y783, hy783⟩ : ∃ y_ : List (S31), y_ = (([(⟨t726, (⟨t727, (⟨t728, t729⟩ : S23), t730, t731⟩ : S25), t732, t733⟩ : S31), (⟨t747, (⟨t748, (⟨t749, t750⟩ : S23), t751, t752⟩ : S25), t753, t754⟩ : S31), (⟨t768, (⟨t769, (⟨t770, t771⟩ : S23), t772, t773⟩ : S25), t774, t775⟩ : S31)] : List (S31))) := ⟨_, rfl⟩
   replace H : ((expr_Parser_make.f s0_0 t778 t779 t780 t781 t782 17 y783).bind fun bt786 => (some (bt786.1, bt786.2.1, bt786.2.2.1, bt786.2.2.2.1, bt786.2.2.2.2.1, bt786.2.2.2.2.2.1, bt786.2.2.2.2.2.2.1, bt786.2.2.2.2.2.2.2.1, bt786.2.2.2.2.2.2.2.2.1, bt786.2.2.2.2.2.2.2.2.2.1, bt786.2.2.2.2.2.2.2.2.2.2.1, bt786.2.2.2.2.2.2.2.2.2.2.2.1, bt786.2.2.2.2.2.2.2.2.2.2.2.2))) = some (r1, r2, r3, r4, r5, r6, r7, r8, r9, r10, r11, r12, r13) := by first | (rw [hy783]; with_reducible exact H) | (have H2_ := (Option.bind_some _ _).symm.trans H; rw [hy783]; with_reducible exact H2_) | (have H2_ := (Option.bind_some _ _).symm.trans H; with_reducible exact H2_) | with_reducible exact H | (rw [hy783]; exact H) | exact H
   have Ny783 := am hy783
   clear hy783
   replace H := obe13 H
   obtain ⟨t786, t787, t788, t789, t790, t791, t792, t793, t796, t797, t798, t799, t800, A22, H⟩ := H
   simp only [Option.some.injEq, Prod.mk.injEq] at H
   obtain ⟨rfl, rfl, rfl, rfl, rfl, rfl, rfl, rfl, rfl, rfl, rfl, rfl, rfl⟩ := H
   try go_wp2_with (first | ((with_reducible refine gate_callee (f := 31) rfl ?_); refine gl_ (some 26) Tryz.func31 (by kernel_rfl) #[.pointer (some ⟨g, 0, none⟩), .int .i64 a1] rfl ?_; (with_reducible refine (ih_expr_Parser_Expr kj3 (by have := HJ3.out; omega) g s0_0 x1001_3 x1002_3 x1003_3 x1004_3 x1005_3 a1 t726 t727 t728 t729 t730 t731 t732 t733 t736 t737 t738 t739 t740 w0 _ ?side1 ?side2 A17.out).mono ?_); (case side1 => exact hz HI0.out); (case side2 => exact bz HB.out); rintro e w23 ⟨v734, rfl, ho0, hi, hb, hk⟩; refine ⟨_, rfl, ?_⟩; have HO735 := am (Kd.V_lower (Kd.V_mono (ok' := fun k_ => (w.heap.size ≤ k_) ∧ k_ ≠ gb704 ∧ k_ ≠ g) ho0 (fun k_ hk_ => ⟨(Nat.le_trans (keep_size (w := w) (g := g) (row := none) (kz HK.out)) hk_), (Kd.freshB (bk BK704.out) k_ hk_), (IsS63.fresh (hz HI0.out) k_ hk_)⟩)) (keep_size (w := w) (g := g) (row := none) (kz HK.out))); replace BK704 := am (KeepBut.blk hk (bk BK704.out) NB704_0.out (by simp)); replace HK := am (KeepBut.trans (kz HK.out) hk (.inl rfl)); replace HB := am (hb); replace HI0 := am (hi); clear hb hk hi ho0) | ((with_reducible refine gate_dst (N := 5) rfl ?_); refine bev (#[.int .i64 0, .int .i64 0, .int .i64 0, .int .i64 0, .string (⟨#[]⟩ : ByteArray), .int .i64 0, .string (⟨#[]⟩ : ByteArray), .slice none 0 0]) 31 ?_; intro gb741 hg w24 hbox hb; replace HO735 := am (Kd.V_below (Kd.V_elderB (vv HO735.out) gb741 (Nat.le_of_eq hg.symm)) hb); replace HB := sb HB hb; have BK741 := am (hbox); have GW741 := gk hg HK; have GE741 := am (Nat.le_trans HW0.out GW741.out); replace HK := am (KeepBut.trans (kz HK.out) (KeepBut.of_below hb g none) (.inl rfl)); have NB704_741 := na hg BK704; have NB741_704 := nb hg BK704; replace BK704 := kb BK704 hb; have NB0_741 := am ((nlt (a := g) hg (IsS63.lt (show IsS63 w0 _ g s0_0 t736 t737 t738 t739 t740 from hz HI0.out)))); have NB741_0 := am ((ngt (a := g) hg (IsS63.lt (show IsS63 w0 _ g s0_0 t736 t737 t738 t739 t740 from hz HI0.out)))); replace HI0 := am (IsS63.below (hz HI0.out) hb); clear hb hbox hg; have hnb25 := NB741_704.out; have hnc25 := NB704_741.out; have hnb26 := NB741_0.out; have hnc26 := NB0_741.out; obtain ⟨Z27_0, Z27_1, Z27_2, Z27_3, Z27_4, Z27_5, Z27_6, Z27_7, F27_0, F27_1, F27_2, F27_3, F27_4, F27_5, F27_6, F27_7⟩ := cz8 BK741.out; obtain ⟨Ao28, co28, eo28⟩ := Kd.V_slice HO735.out; subst eo28) | ((with_reducible refine gate_callee (f := 65) rfl ?_); refine gl_ (some 28) Tryz.func65 (by kernel_rfl) #[.pointer (some ⟨g, 0, none⟩), .string (⟨#[116, 104, 101, 110]⟩ : ByteArray)] rfl ?_; (with_reducible refine (expr_Parser_Need.calls kj3 g s0_0 t736 t737 t738 t739 t740 (⟨#[116, 104, 101, 110]⟩ : ByteArray) t742 t743 t744 t745 t746 w0 _ ?side1 ?side2 A18.out).mono ?_); (case side1 => exact hz HI0.out); (case side2 => exact bz HB.out); rintro e w29 ⟨rfl, hi, hb, hk⟩; refine ⟨_, rfl, ?_⟩; replace BK704 := am (KeepBut.blk hk (g' := gb704) (o := .cells #[.int .i64 0, .int .i64 0, .int .i64 0, .int .i64 0, .string (⟨#[]⟩ : ByteArray), .int .i64 0, .string (⟨#[]⟩ : ByteArray), .slice none 0 0] 31 (0, 0)) (bp BK704.out) NB704_0.out (by simp)); replace HO735 := am (Kd.V_mono (Kd.V_keep (Kd.V_mono (ok := fun k_ => ((((w.heap.size ≤ k_)) ∧ (k_ ≠ gb704 ∧ k_ ≠ g)) ∧ k_ ≠ gb741)) (by (with_reducible repeat (first | apply Kd.V_alloc | apply Kd.V_drewN | apply Kd.V_drew)); exact (Kd.V_mono (Kd.V_far (p := ⟨gb741, 7, none⟩) (Kd.V_far (p := ⟨gb741, 6, none⟩) (Kd.V_far (p := ⟨gb741, 5, none⟩) (Kd.V_far (p := ⟨gb741, 4, none⟩) (Kd.V_far (p := ⟨gb741, 3, none⟩) (Kd.V_far (p := ⟨gb741, 2, none⟩) (Kd.V_far (p := ⟨gb741, 1, none⟩) (Kd.V_far (p := ⟨gb741, 0, none⟩) (Kd.V_mono HO735.out (fun k_ hk => (⟨hk, hk.2⟩ : _ ∧ k_ ≠ gb741))) (fun _ hk => hk.2) (.int .i64 t726)) (fun _ hk => hk.2) (.int .i64 t727)) (fun _ hk => hk.2) (.int .i64 t728)) (fun _ hk => hk.2) (.int .i64 t729)) (fun _ hk => hk.2) (.string t730)) (fun _ hk => hk.2) (.int .i64 t731)) (fun _ hk => hk.2) (.string t732)) (fun _ hk => hk.2) (.slice Ao28 t733.length co28)) (fun _ h_ => h_.1))) (fun k_ hk_ => (⟨hk_, hk_.1.2.2⟩ : _ ∧ k_ ≠ g))) hk (fun _ h => h.2)) (fun _ h => h.1)); replace BK741 := am (KeepBut.blk hk (g' := gb741) (o := .cells #[.int .i64 t726, .int .i64 t727, .int .i64 t728, .int .i64 t729, .string t730, .int .i64 t731, .string t732, .slice Ao28 t733.length co28] 31 (0, 0)) (bp BK741.out) NB741_0.out (by simp)); replace HK := am (KeepBut.trans (kz HK.out) hk (.inl rfl)); replace HB := am (hb); replace HI0 := am (hi); clear hb hk hi) | ((with_reducible refine gate_callee (f := 31) rfl ?_); refine gl_ (some 31) Tryz.func31 (by kernel_rfl) #[.pointer (some ⟨g, 0, none⟩), .int .i64 a1] rfl ?_; (with_reducible refine (ih_expr_Parser_Expr kj3 (by have := HJ3.out; omega) g s0_0 t742 t743 t744 t745 t746 a1 t747 t748 t749 t750 t751 t752 t753 t754 t757 t758 t759 t760 t761 w0 _ ?side1 ?side2 A19.out).mono ?_); (case side1 => exact hz HI0.out); (case side2 => exact bz HB.out); rintro e w30 ⟨v755, rfl, ho0, hi, hb, hk⟩; refine ⟨_, rfl, ?_⟩; replace HO735 := am (Kd.V_mono (Kd.V_keep (Kd.V_mono (ok := fun k_ => ((((w.heap.size ≤ k_)) ∧ (k_ ≠ gb704 ∧ k_ ≠ g)) ∧ k_ ≠ gb741)) (vv HO735.out) (fun k_ hk_ => (⟨hk_, hk_.1.2.2⟩ : _ ∧ k_ ≠ g))) hk (fun _ h => h.2)) (fun _ h => h.1)); have HO756 := am (Kd.V_lower (Kd.V_mono (ok' := fun k_ => (w.heap.size ≤ k_) ∧ k_ ≠ gb704 ∧ k_ ≠ gb741 ∧ k_ ≠ g) ho0 (fun k_ hk_ => ⟨(Nat.le_trans (keep_size (w := w) (g := g) (row := none) (kz HK.out)) hk_), (Kd.freshB (bk BK704.out) k_ hk_), (Kd.freshB (bk BK741.out) k_ hk_), (IsS63.fresh (hz HI0.out) k_ hk_)⟩)) (keep_size (w := w) (g := g) (row := none) (kz HK.out))); replace BK704 := am (KeepBut.blk hk (bk BK704.out) NB704_0.out (by simp)); replace BK741 := am (KeepBut.blk hk (bk BK741.out) NB741_0.out (by simp)); replace HK := am (KeepBut.trans (kz HK.out) hk (.inl rfl)); replace HB := am (hb); replace HI0 := am (hi); clear hb hk hi ho0) | ((with_reducible refine gate_dst (N := 6) rfl ?_); refine bev (#[.int .i64 0, .int .i64 0, .int .i64 0, .int .i64 0, .string (⟨#[]⟩ : ByteArray), .int .i64 0, .string (⟨#[]⟩ : ByteArray), .slice none 0 0]) 31 ?_; intro gb762 hg w31 hbox hb; replace HO735 := am (Kd.V_below (Kd.V_elderB (vv HO735.out) gb762 (Nat.le_of_eq hg.symm)) hb); replace HO756 := am (Kd.V_below (Kd.V_elderB (vv HO756.out) gb762 (Nat.le_of_eq hg.symm)) hb); replace HB := sb HB hb; have BK762 := am (hbox); have GW762 := gk hg HK; have GE762 := am (Nat.le_trans HW0.out GW762.out); replace HK := am (KeepBut.trans (kz HK.out) (KeepBut.of_below hb g none) (.inl rfl)); have NB704_762 := na hg BK704; have NB762_704 := nb hg BK704; replace BK704 := kb BK704 hb; have NB741_762 := na hg BK741; have NB762_741 := nb hg BK741; replace BK741 := kb BK741 hb; have NB0_762 := am ((nlt (a := g) hg (IsS63.lt (show IsS63 w0 _ g s0_0 t757 t758 t759 t760 t761 from hz HI0.out)))); have NB762_0 := am ((ngt (a := g) hg (IsS63.lt (show IsS63 w0 _ g s0_0 t757 t758 t759 t760 t761 from hz HI0.out)))); replace HI0 := am (IsS63.below (hz HI0.out) hb); clear hb hbox hg; have hnb32 := NB762_704.out; have hnc32 := NB704_762.out; have hnb33 := NB762_741.out; have hnc33 := NB741_762.out; have hnb34 := NB762_0.out; have hnc34 := NB0_762.out; obtain ⟨Z35_0, Z35_1, Z35_2, Z35_3, Z35_4, Z35_5, Z35_6, Z35_7, F35_0, F35_1, F35_2, F35_3, F35_4, F35_5, F35_6, F35_7⟩ := cz8 BK762.out; obtain ⟨Ao36, co36, eo36⟩ := Kd.V_slice HO756.out; subst eo36) | ((with_reducible refine gate_callee (f := 65) rfl ?_); refine gl_ (some 33) Tryz.func65 (by kernel_rfl) #[.pointer (some ⟨g, 0, none⟩), .string (⟨#[101, 108, 115, 101]⟩ : ByteArray)] rfl ?_; (with_reducible refine (expr_Parser_Need.calls kj3 g s0_0 t757 t758 t759 t760 t761 (⟨#[101, 108, 115, 101]⟩ : ByteArray) t763 t764 t765 t766 t767 w0 _ ?side1 ?side2 A20.out).mono ?_); (case side1 => exact hz HI0.out); (case side2 => exact bz HB.out); rintro e w37 ⟨rfl, hi, hb, hk⟩; refine ⟨_, rfl, ?_⟩; replace BK704 := am (KeepBut.blk hk (g' := gb704) (o := .cells #[.int .i64 0, .int .i64 0, .int .i64 0, .int .i64 0, .string (⟨#[]⟩ : ByteArray), .int .i64 0, .string (⟨#[]⟩ : ByteArray), .slice none 0 0] 31 (0, 0)) (bp BK704.out) NB704_0.out (by simp)); replace HO735 := am (Kd.V_mono (Kd.V_keep (Kd.V_mono (ok := fun k_ => (((((w.heap.size ≤ k_)) ∧ (k_ ≠ gb704 ∧ k_ ≠ g)) ∧ k_ ≠ gb741) ∧ k_ ≠ gb762)) (by (with_reducible repeat (first | apply Kd.V_alloc | apply Kd.V_drewN | apply Kd.V_drew)); exact (Kd.V_mono (Kd.V_far (p := ⟨gb762, 7, none⟩) (Kd.V_far (p := ⟨gb762, 6, none⟩) (Kd.V_far (p := ⟨gb762, 5, none⟩) (Kd.V_far (p := ⟨gb762, 4, none⟩) (Kd.V_far (p := ⟨gb762, 3, none⟩) (Kd.V_far (p := ⟨gb762, 2, none⟩) (Kd.V_far (p := ⟨gb762, 1, none⟩) (Kd.V_far (p := ⟨gb762, 0, none⟩) (Kd.V_mono HO735.out (fun k_ hk => (⟨hk, hk.2⟩ : _ ∧ k_ ≠ gb762))) (fun _ hk => hk.2) (.int .i64 t747)) (fun _ hk => hk.2) (.int .i64 t748)) (fun _ hk => hk.2) (.int .i64 t749)) (fun _ hk => hk.2) (.int .i64 t750)) (fun _ hk => hk.2) (.string t751)) (fun _ hk => hk.2) (.int .i64 t752)) (fun _ hk => hk.2) (.string t753)) (fun _ hk => hk.2) (.slice Ao36 t754.length co36)) (fun _ h_ => h_.1))) (fun k_ hk_ => (⟨hk_, hk_.1.1.2.2⟩ : _ ∧ k_ ≠ g))) hk (fun _ h => h.2)) (fun _ h => h.1)); replace BK741 := am (KeepBut.blk hk (g' := gb741) (o := .cells #[.int .i64 t726, .int .i64 t727, .int .i64 t728, .int .i64 t729, .string t730, .int .i64 t731, .string t732, .slice Ao28 t733.length co28] 31 (0, 0)) (bp BK741.out) NB741_0.out (by simp)); replace HO756 := am (Kd.V_mono (Kd.V_keep (Kd.V_mono (ok := fun k_ => ((((w.heap.size ≤ k_)) ∧ (k_ ≠ gb704 ∧ (k_ ≠ gb741 ∧ k_ ≠ g))) ∧ k_ ≠ gb762)) (by (with_reducible repeat (first | apply Kd.V_alloc | apply Kd.V_drewN | apply Kd.V_drew)); exact (Kd.V_mono (Kd.V_far (p := ⟨gb762, 7, none⟩) (Kd.V_far (p := ⟨gb762, 6, none⟩) (Kd.V_far (p := ⟨gb762, 5, none⟩) (Kd.V_far (p := ⟨gb762, 4, none⟩) (Kd.V_far (p := ⟨gb762, 3, none⟩) (Kd.V_far (p := ⟨gb762, 2, none⟩) (Kd.V_far (p := ⟨gb762, 1, none⟩) (Kd.V_far (p := ⟨gb762, 0, none⟩) (Kd.V_mono HO756.out (fun k_ hk => (⟨hk, hk.2⟩ : _ ∧ k_ ≠ gb762))) (fun _ hk => hk.2) (.int .i64 t747)) (fun _ hk => hk.2) (.int .i64 t748)) (fun _ hk => hk.2) (.int .i64 t749)) (fun _ hk => hk.2) (.int .i64 t750)) (fun _ hk => hk.2) (.string t751)) (fun _ hk => hk.2) (.int .i64 t752)) (fun _ hk => hk.2) (.string t753)) (fun _ hk => hk.2) (.slice Ao36 t754.length co36)) (fun _ h_ => h_.1))) (fun k_ hk_ => (⟨hk_, hk_.1.2.2.2⟩ : _ ∧ k_ ≠ g))) hk (fun _ h => h.2)) (fun _ h => h.1)); replace BK762 := am (KeepBut.blk hk (g' := gb762) (o := .cells #[.int .i64 t747, .int .i64 t748, .int .i64 t749, .int .i64 t750, .string t751, .int .i64 t752, .string t753, .slice Ao36 t754.length co36] 31 (0, 0)) (bp BK762.out) NB762_0.out (by simp)); replace HK := am (KeepBut.trans (kz HK.out) hk (.inl rfl)); replace HB := am (hb); replace HI0 := am (hi); clear hb hk hi))
   replace HO735 := am (Kd.V_drew HO735.out)
   replace HO756 := am (Kd.V_drew HO756.out)
   replace BK704 := am (blk_drew BK704.out)
   replace BK741 := am (blk_drew BK741.out)
   replace BK762 := am (blk_drew BK762.out)
   replace HI0 := am (IsS63.drew HI0.out)
   replace HK := am (keep_drew HK.out)
   replace HB := am (below_drew1 HB.out)
   refine start_ (n := 9) (S := fun w' => w'.cell? ⟨gb741, 0, none⟩ = some (.int .i64 t726) ∧ w'.cell? ⟨gb741, 1, none⟩ = some (.int .i64 t727) ∧ w'.cell? ⟨gb741, 2, none⟩ = some (.int .i64 t728) ∧ w'.cell? ⟨gb741, 3, none⟩ = some (.int .i64 t729) ∧ w'.cell? ⟨gb741, 4, none⟩ = some (.string t730) ∧ w'.cell? ⟨gb741, 5, none⟩ = some (.int .i64 t731) ∧ w'.cell? ⟨gb741, 6, none⟩ = some (.string t732) ∧ w'.cell? ⟨gb741, 7, none⟩ = some (.slice Ao28 t733.length co28) ∧ w'.cell? ⟨gb762, 0, none⟩ = some (.int .i64 t747) ∧ w'.cell? ⟨gb762, 1, none⟩ = some (.int .i64 t748) ∧ w'.cell? ⟨gb762, 2, none⟩ = some (.int .i64 t749) ∧ w'.cell? ⟨gb762, 3, none⟩ = some (.int .i64 t750) ∧ w'.cell? ⟨gb762, 4, none⟩ = some (.string t751) ∧ w'.cell? ⟨gb762, 5, none⟩ = some (.int .i64 t752) ∧ w'.cell? ⟨gb762, 6, none⟩ = some (.string t753) ∧ w'.cell? ⟨gb762, 7, none⟩ = some (.slice Ao36 t754.length co36)) (ds := []) (bts0 9) (by kernel_rfl) rfl rfl ⟨(blk_cell BK741.out 0).trans rfl, (blk_cell BK741.out 1).trans rfl, (blk_cell BK741.out 2).trans rfl, (blk_cell BK741.out 3).trans rfl, (blk_cell BK741.out 4).trans rfl, (blk_cell BK741.out 5).trans rfl, (blk_cell BK741.out 6).trans rfl, (blk_cell BK741.out 7).trans rfl, (blk_cell BK762.out 0).trans rfl, (blk_cell BK762.out 1).trans rfl, (blk_cell BK762.out 2).trans rfl, (blk_cell BK762.out 3).trans rfl, (blk_cell BK762.out 4).trans rfl, (blk_cell BK762.out 5).trans rfl, (blk_cell BK762.out 6).trans rfl, (blk_cell BK762.out 7).trans rfl⟩ (fun hHeld => ?_); refine with_tabW expr_Parser_Expr.tab9 expr_Parser_Expr.bits9 (fun HT_ HW_ => ?_)
   generalize w37.drew = w38 at HO735 HO756 BK704 BK741 BK762 HI0 HK HB hHeld ⊢
   refine pu 0 (some 34) (bts 9 1) (any_of HT_.out (by kernel_rfl)) ?_
   refine pu 3 (some 37) (bts 9 9) (any_of HT_.out (by kernel_rfl)) ?_
   refine pu 4 (some 38) (bts 9 25) (any_of HT_.out (by kernel_rfl)) ?_
   refine ta 1 (some 35) (bts 9 27) (take_ofW HT_.out HW_.out (by kernel_rfl)) hHeld ?_
   refine ta 2 (some 36) (bts 9 31) (take_ofW HT_.out HW_.out (by kernel_rfl)) hHeld ?_
   refine one_ (i := 5) (N := some 39) (bts 9 63) rfl rfl (one_of HT_.out (by kernel_rfl)) (by decide) (fun K hK => ?_)
   refine goes_ Tryz.func31 (by kernel_rfl) rfl #[.pointer (some ⟨g, 0, none⟩), .int .i64 a1] (by rfl) rfl rfl lz ?_
   with_reducible refine (ih_expr_Parser_Expr kj3 (by have := HJ3.out; omega) g s0_0 t763 t764 t765 t766 t767 a1 t768 t769 t770 t771 t772 t773 t774 t775 t778 t779 t780 t781 t782 w0 _ ?side1 ?side2 A21.out).mono ?_
   (case side1 => exact hz HI0.out)
   (case side2 => exact bz HB.out)
   rintro e w39 ⟨v776, rfl, ho0, hi, hb, hk⟩
   refine ⟨_, rfl, ?_⟩
   replace HO735 := am (Kd.V_mono (Kd.V_keep (Kd.V_mono (ok := fun k_ => (((((w.heap.size ≤ k_)) ∧ (k_ ≠ gb704 ∧ k_ ≠ g)) ∧ k_ ≠ gb741) ∧ k_ ≠ gb762)) (vv HO735.out) (fun k_ hk_ => (⟨hk_, hk_.1.1.2.2⟩ : _ ∧ k_ ≠ g))) hk (fun _ h => h.2)) (fun _ h => h.1))
   replace HO756 := am (Kd.V_mono (Kd.V_keep (Kd.V_mono (ok := fun k_ => ((((w.heap.size ≤ k_)) ∧ (k_ ≠ gb704 ∧ (k_ ≠ gb741 ∧ k_ ≠ g))) ∧ k_ ≠ gb762)) (vv HO756.out) (fun k_ hk_ => (⟨hk_, hk_.1.2.2.2⟩ : _ ∧ k_ ≠ g))) hk (fun _ h => h.2)) (fun _ h => h.1))
   have HO777 := am (Kd.V_lower (Kd.V_mono (ok' := fun k_ => (w.heap.size ≤ k_) ∧ k_ ≠ gb704 ∧ k_ ≠ gb741 ∧ k_ ≠ gb762 ∧ k_ ≠ g) ho0 (fun k_ hk_ => ⟨(Nat.le_trans (keep_size (w := w) (g := g) (row := none) (kz HK.out)) hk_), (Kd.freshB (bk BK704.out) k_ hk_), (Kd.freshB (bk BK741.out) k_ hk_), (Kd.freshB (bk BK762.out) k_ hk_), (IsS63.fresh (hz HI0.out) k_ hk_)⟩)) (keep_size (w := w) (g := g) (row := none) (kz HK.out)))
   replace BK704 := am (KeepBut.blk hk (bk BK704.out) NB704_0.out (by simp))
   replace BK741 := am (KeepBut.blk hk (bk BK741.out) NB741_0.out (by simp))
   replace BK762 := am (KeepBut.blk hk (bk BK762.out) NB762_0.out (by simp))
   replace HK := am (KeepBut.trans (kz HK.out) hk (.inl rfl))
   replace HB := am (hb)
   replace HI0 := am (hi)
   (try clear hb)
   (try clear hb2)
   (try clear hk)
   (try clear hi)
   (try clear ho0)
   obtain ⟨Ao40, co40, eo40⟩ := Kd.V_slice HO777.out
   (first | subst eo40 | (injection eo40 with f1_ f2_ f3_; have f4_ := f1_.symm; have f5_ := f3_.symm; clear f1_ f2_ f3_; subst f4_; subst f5_))
   refine hK.out _ _ ⟨(blk_cell BK741.out 0).trans rfl, (blk_cell BK741.out 1).trans rfl, (blk_cell BK741.out 2).trans rfl, (blk_cell BK741.out 3).trans rfl, (blk_cell BK741.out 4).trans rfl, (blk_cell BK741.out 5).trans rfl, (blk_cell BK741.out 6).trans rfl, (blk_cell BK741.out 7).trans rfl, (blk_cell BK762.out 0).trans rfl, (blk_cell BK762.out 1).trans rfl, (blk_cell BK762.out 2).trans rfl, (blk_cell BK762.out 3).trans rfl, (blk_cell BK762.out 4).trans rfl, (blk_cell BK762.out 5).trans rfl, (blk_cell BK762.out 6).trans rfl, (blk_cell BK762.out 7).trans rfl⟩ (fun hHeld => ?_)
   clear hK K
   refine norm_ (a' := ?_) ?_ ?_
   rotate_left
   ·show Act.put _ (some 39) _ = _
    simp only [Act.put, List.setIfInBounds_toArray, List.set_cons_zero, List.set_cons_succ, i64_w, i32_w]
    rfl
   refine one_ (i := 6) (N := some 40) (bts 9 127) rfl rfl (one_of HT_.out (by kernel_rfl)) (by decide) (fun K hK => ?_)
   refine Kd.N_lit_step k31 _ 31 ?hg (N' := 40) ?hd (xs := ([(⟨t726, (⟨t727, (⟨t728, t729⟩ : S23), t730, t731⟩ : S25), t732, t733⟩ : S31), (⟨t747, (⟨t748, (⟨t749, t750⟩ : S23), t751, t752⟩ : S25), t753, t754⟩ : S31), (⟨t768, (⟨t769, (⟨t770, t771⟩ : S23), t772, t773⟩ : S25), t774, t775⟩ : S31)] : List (S31))) (inner := [.int .i64 t726, .int .i64 t727, .int .i64 t728, .int .i64 t729, .string t730, .int .i64 t731, .string t732, .slice Ao28 t733.length co28, .int .i64 t747, .int .i64 t748, .int .i64 t749, .int .i64 t750, .string t751, .int .i64 t752, .string t753, .slice Ao36 t754.length co36, .int .i64 t768, .int .i64 t769, .int .i64 t770, .int .i64 t771, .string t772, .int .i64 t773, .string t774, .slice Ao40 t775.length co40]) (ok := (fun k_ => (w.heap.size ≤ k_) ∧ k_ ≠ gb704 ∧ k_ ≠ gb741 ∧ k_ ≠ gb762 ∧ k_ ≠ g)) (okp := (fun k_ => (w.heap.size ≤ k_) ∧ k_ ≠ gb704 ∧ k_ ≠ gb741 ∧ k_ ≠ gb762 ∧ k_ ≠ g)) ?hr ?hp (fun _ hk => hk) ((show ∀ k_, w39.heap.size ≤ k_ → (fun k_ => (w.heap.size ≤ k_) ∧ k_ ≠ gb704 ∧ k_ ≠ gb741 ∧ k_ ≠ gb762 ∧ k_ ≠ g) k_ from fun k_ hk => ⟨(Nat.le_trans (keep_size (w := w) (g := g) (row := none) (kz HK.out)) hk), Kd.freshB (bk BK704.out) k_ hk, Kd.freshB (bk BK741.out) k_ hk, Kd.freshB (bk BK762.out) k_ hk, IsS63.fresh (hz HI0.out) k_ hk⟩) _ (Nat.le_refl _)) (Below.refl _ _) (Nat.le_refl _) (by simp) ?_; (case hd => rfl); (case hg => rfl); (case hr => first | (go_simp; done) | (go_simp; rfl)); (case hp => exact (Reps.c8 (show Kd.FK k31 _ _ (⟨t726, (⟨t727, (⟨t728, t729⟩ : S23), t730, t731⟩ : S25), t732, t733⟩ : S31) [.int .i64 t726, .int .i64 t727, .int .i64 t728, .int .i64 t729, .string t730, .int .i64 t731, .string t732, .slice Ao28 t733.length co28] from (k31_mkF _ _ (⟨t726, (⟨t727, (⟨t728, t729⟩ : S23), t730, t731⟩ : S25), t732, t733⟩ : S31) (Kd.V_reads' (Kd.V_mono (ok' := (fun k_ => (w.heap.size ≤ k_) ∧ k_ ≠ gb704 ∧ k_ ≠ gb741 ∧ k_ ≠ gb762 ∧ k_ ≠ g)) (HO735.out) (fun k_ hk => ⟨hk.1.1.1, ⟨hk.1.1.2.1, ⟨hk.1.2, ⟨hk.2, hk.1.1.2.2⟩⟩⟩⟩))).2.1 (Kd.V_F (Kd.V_mono (ok' := (fun k_ => (w.heap.size ≤ k_) ∧ k_ ≠ gb704 ∧ k_ ≠ gb741 ∧ k_ ≠ gb762 ∧ k_ ≠ g)) (HO735.out) (fun k_ hk => ⟨hk.1.1.1, ⟨hk.1.1.2.1, ⟨hk.1.2, ⟨hk.2, hk.1.1.2.2⟩⟩⟩⟩))))) (Reps.c8 (show Kd.FK k31 _ _ (⟨t747, (⟨t748, (⟨t749, t750⟩ : S23), t751, t752⟩ : S25), t753, t754⟩ : S31) [.int .i64 t747, .int .i64 t748, .int .i64 t749, .int .i64 t750, .string t751, .int .i64 t752, .string t753, .slice Ao36 t754.length co36] from (k31_mkF _ _ (⟨t747, (⟨t748, (⟨t749, t750⟩ : S23), t751, t752⟩ : S25), t753, t754⟩ : S31) (Kd.V_reads' (Kd.V_mono (ok' := (fun k_ => (w.heap.size ≤ k_) ∧ k_ ≠ gb704 ∧ k_ ≠ gb741 ∧ k_ ≠ gb762 ∧ k_ ≠ g)) (HO756.out) (fun k_ hk => ⟨hk.1.1, ⟨hk.1.2.1, ⟨hk.1.2.2.1, ⟨hk.2, hk.1.2.2.2⟩⟩⟩⟩))).2.1 (Kd.V_F (Kd.V_mono (ok' := (fun k_ => (w.heap.size ≤ k_) ∧ k_ ≠ gb704 ∧ k_ ≠ gb741 ∧ k_ ≠ gb762 ∧ k_ ≠ g)) (HO756.out) (fun k_ hk => ⟨hk.1.1, ⟨hk.1.2.1, ⟨hk.1.2.2.1, ⟨hk.2, hk.1.2.2.2⟩⟩⟩⟩))))) (Reps.c8 (show Kd.FK k31 _ _ (⟨t768, (⟨t769, (⟨t770, t771⟩ : S23), t772, t773⟩ : S25), t774, t775⟩ : S31) [.int .i64 t768, .int .i64 t769, .int .i64 t770, .int .i64 t771, .string t772, .int .i64 t773, .string t774, .slice Ao40 t775.length co40] from (k31_mkF _ _ (⟨t768, (⟨t769, (⟨t770, t771⟩ : S23), t772, t773⟩ : S25), t774, t775⟩ : S31) (Kd.V_reads' (Kd.V_mono (ok' := (fun k_ => (w.heap.size ≤ k_) ∧ k_ ≠ gb704 ∧ k_ ≠ gb741 ∧ k_ ≠ gb762 ∧ k_ ≠ g)) (HO777.out) (fun k_ hk => ⟨hk.1, ⟨hk.2.1, ⟨hk.2.2.1, ⟨hk.2.2.2.1, hk.2.2.2.2⟩⟩⟩⟩))).2.1 (Kd.V_F (Kd.V_mono (ok' := (fun k_ => (w.heap.size ≤ k_) ∧ k_ ≠ gb704 ∧ k_ ≠ gb741 ∧ k_ ≠ gb762 ∧ k_ ≠ g)) (HO777.out) (fun k_ hk => ⟨hk.1, ⟨hk.2.1, ⟨hk.2.2.1, ⟨hk.2.2.2.1, hk.2.2.2.2⟩⟩⟩⟩))))) (Reps.none _ _)))))
   intro v784 w41 ho42 hb hg_ hnew_
   clear hg_ hnew_
   (first | rw [← Ny783.out] at ho42 | (simp only [Int.reduceToNat] at ho42; rw [← Ny783.out] at ho42))
   replace HO735 := am (Kd.V_elder' (vv HO735.out) (Kd.N_base ho42) hb)
   replace HO756 := am (Kd.V_elder' (vv HO756.out) (Kd.N_base ho42) hb)
   replace HO777 := am (Kd.V_elder' (vv HO777.out) (Kd.N_base ho42) hb)
   have HO785 := am (Kd.N_lower ho42 (keep_size (w := w) (g := g) (row := none) (kz HK.out)))
   replace BK704 := kb BK704 hb
   replace HI0 := am (IsS63.below (hz HI0.out) hb)
   replace BK741 := kb BK741 hb
   replace BK762 := kb BK762 hb
   replace HK := am (KeepBut.trans (kz HK.out) (KeepBut.of_below hb g none) (.inl rfl))
   replace HB := sb HB hb
   clear hb ho42
   obtain ⟨Ao43, co43, eo43⟩ := Kd.N_slice HO785.out
   (first | subst eo43 | (injection eo43 with f1_ f2_ f3_; have f4_ := f1_.symm; have f5_ := f3_.symm; clear f1_ f2_ f3_; subst f4_; subst f5_))
   refine hK.out _ _ ⟨(blk_cell BK741.out 0).trans rfl, (blk_cell BK741.out 1).trans rfl, (blk_cell BK741.out 2).trans rfl, (blk_cell BK741.out 3).trans rfl, (blk_cell BK741.out 4).trans rfl, (blk_cell BK741.out 5).trans rfl, (blk_cell BK741.out 6).trans rfl, (blk_cell BK741.out 7).trans rfl, (blk_cell BK762.out 0).trans rfl, (blk_cell BK762.out 1).trans rfl, (blk_cell BK762.out 2).trans rfl, (blk_cell BK762.out 3).trans rfl, (blk_cell BK762.out 4).trans rfl, (blk_cell BK762.out 5).trans rfl, (blk_cell BK762.out 6).trans rfl, (blk_cell BK762.out 7).trans rfl⟩ (fun hHeld => ?_)
   clear hK K
   refine norm_ (a' := ?_) ?_ ?_
   rotate_left
   ·show Act.put _ (some 40) _ = _
    simp only [Act.put, List.setIfInBounds_toArray, List.set_cons_zero, List.set_cons_succ, i64_w, i32_w]
    rfl
   refine one_ (i := 7) (N := some 41) (bts 9 255) rfl rfl (one_of HT_.out (by kernel_rfl)) (by decide) (fun K hK => ?_)
   refine goes_ Tryz.func66 (by kernel_rfl) rfl #[.pointer (some ⟨g, 0, none⟩), .int .i64 17, .slice Ao43 y783.length co43] (by rfl) rfl rfl lz ?_
   with_reducible refine (expr_Parser_make.calls g s0_0 t778 t779 t780 t781 t782 17 (fun k_ => ((w.heap.size ≤ k_) ∧ (k_ ≠ gb704 ∧ (k_ ≠ gb741 ∧ (k_ ≠ gb762 ∧ k_ ≠ g))))) _ _ y783 t786 t787 t788 t789 t790 t791 t792 t793 t796 t797 t798 t799 t800 w0 _ ?side1 ?side2 ?side3 A22.out).mono ?_
   (case side1 => exact hz HI0.out)
   (case side2 => exact bz HB.out)
   (case side3 => exact Kd.V_mono (Kd.N_V (HO785.out)) (fun k_ hk_ => ⟨hk_, hk_.2.2.2.2⟩))
   rintro e w44 ⟨v794, rfl, ho0, hi, hb, hk⟩
   refine ⟨_, rfl, ?_⟩
   replace HO735 := am (Kd.V_mono (Kd.V_keep (Kd.V_mono (ok := fun k_ => ((((((w.heap.size ≤ k_)) ∧ (k_ ≠ gb704 ∧ k_ ≠ g)) ∧ k_ ≠ gb741) ∧ k_ ≠ gb762) ∧ some k_ ≠ (.slice Ao43 y783.length co43 : Value).ownBlock)) (vv HO735.out) (fun k_ hk_ => (⟨hk_, hk_.1.1.1.2.2⟩ : _ ∧ k_ ≠ g))) hk (fun _ h => h.2)) (fun _ h => h.1))
   replace HO756 := am (Kd.V_mono (Kd.V_keep (Kd.V_mono (ok := fun k_ => (((((w.heap.size ≤ k_)) ∧ (k_ ≠ gb704 ∧ (k_ ≠ gb741 ∧ k_ ≠ g))) ∧ k_ ≠ gb762) ∧ some k_ ≠ (.slice Ao43 y783.length co43 : Value).ownBlock)) (vv HO756.out) (fun k_ hk_ => (⟨hk_, hk_.1.1.2.2.2⟩ : _ ∧ k_ ≠ g))) hk (fun _ h => h.2)) (fun _ h => h.1))
   replace HO777 := am (Kd.V_mono (Kd.V_keep (Kd.V_mono (ok := fun k_ => ((((w.heap.size ≤ k_)) ∧ (k_ ≠ gb704 ∧ (k_ ≠ gb741 ∧ (k_ ≠ gb762 ∧ k_ ≠ g)))) ∧ some k_ ≠ (.slice Ao43 y783.length co43 : Value).ownBlock)) (vv HO777.out) (fun k_ hk_ => (⟨hk_, hk_.1.2.2.2.2⟩ : _ ∧ k_ ≠ g))) hk (fun _ h => h.2)) (fun _ h => h.1))
   replace HO785 := am (Kd.N_mono (Kd.N_keep (Kd.N_mono (ok := fun k_ => (((w.heap.size ≤ k_)) ∧ (k_ ≠ gb704 ∧ (k_ ≠ gb741 ∧ (k_ ≠ gb762 ∧ k_ ≠ g))))) (nn HO785.out) (fun k_ hk_ => (⟨hk_, hk_.2.2.2.2⟩ : _ ∧ k_ ≠ g))) hk (fun _ h => h.2)) (fun _ h => h.1))
   have HO795 := am (Kd.V_lower (Kd.V_mono (ok' := fun k_ => (w.heap.size ≤ k_) ∧ k_ ≠ gb704 ∧ k_ ≠ gb741 ∧ k_ ≠ gb762 ∧ k_ ≠ g) ho0 (fun k_ hk_ => ⟨Or.elim hk_ (fun hs_ => hs_.1) (fun hn_ => (Nat.le_trans (keep_size (w := w) (g := g) (row := none) (kz HK.out)) hn_)), Or.elim hk_ (fun hs_ => hs_.2.1) (fun hn_ => (Kd.freshB (bk BK704.out) k_ hn_)), Or.elim hk_ (fun hs_ => hs_.2.2.1) (fun hn_ => (Kd.freshB (bk BK741.out) k_ hn_)), Or.elim hk_ (fun hs_ => hs_.2.2.2.1) (fun hn_ => (Kd.freshB (bk BK762.out) k_ hn_)), Or.elim hk_ (fun hs_ => hs_.2.2.2.2) (fun hn_ => (IsS63.fresh (hz HI0.out) k_ hn_))⟩)) (keep_size (w := w) (g := g) (row := none) (kz HK.out)))
   replace BK704 := am (KeepBut.blk hk (bk BK704.out) NB704_0.out (by simp))
   replace BK741 := am (KeepBut.blk hk (bk BK741.out) NB741_0.out (by simp))
   replace BK762 := am (KeepBut.blk hk (bk BK762.out) NB762_0.out (by simp))
   replace HK := am (KeepBut.trans (kz HK.out) hk (.inl rfl))
   replace HB := am (hb)
   replace HI0 := am (hi)
   (try clear hb)
   (try clear hb2)
   (try clear hk)
   (try clear hi)
   (try clear ho0)
   obtain ⟨Ao52, co52, eo52⟩ := Kd.V_slice HO795.out
   (first | subst eo52 | (injection eo52 with f1_ f2_ f3_; have f4_ := f1_.symm; have f5_ := f3_.symm; clear f1_ f2_ f3_; subst f4_; subst f5_))
   refine hK.out _ _ ⟨(blk_cell BK741.out 0).trans rfl, (blk_cell BK741.out 1).trans rfl, (blk_cell BK741.out 2).trans rfl, (blk_cell BK741.out 3).trans rfl, (blk_cell BK741.out 4).trans rfl, (blk_cell BK741.out 5).trans rfl, (blk_cell BK741.out 6).trans rfl, (blk_cell BK741.out 7).trans rfl, (blk_cell BK762.out 0).trans rfl, (blk_cell BK762.out 1).trans rfl, (blk_cell BK762.out 2).trans rfl, (blk_cell BK762.out 3).trans rfl, (blk_cell BK762.out 4).trans rfl, (blk_cell BK762.out 5).trans rfl, (blk_cell BK762.out 6).trans rfl, (blk_cell BK762.out 7).trans rfl⟩ (fun hHeld => ?_)
   clear hK K
   refine norm_ (a' := ?_) ?_ ?_
   rotate_left
   ·show Act.put _ (some 41) _ = _
    simp only [Act.put, List.setIfInBounds_toArray, List.set_cons_zero, List.set_cons_succ, i64_w, i32_w]
    rfl
   refine one_ (i := 8) (N := none) (bts 9 511) rfl rfl (one_of HT_.out (by kernel_rfl)) (by decide) (fun K hK => ?_)
   have hs45 : w44.cell? ⟨gb704, 0, none⟩ = some (.int .i64 0) := (blk_cell BK704.out 0).trans rfl
   have hfs45 := blk_frozen BK704.out 0
   have hns45_1 := NB741_704.out
   have hns45_2 := NB762_704.out
   have hms45_1 := NB704_741.out
   have hms45_2 := NB704_762.out
   have hs46 : w44.cell? ⟨gb704, 1, none⟩ = some (.int .i64 0) := (blk_cell BK704.out 1).trans rfl
   have hfs46 := blk_frozen BK704.out 1
   have hns46_1 := NB741_704.out
   have hns46_2 := NB762_704.out
   have hms46_1 := NB704_741.out
   have hms46_2 := NB704_762.out
   have hs47 : w44.cell? ⟨gb704, 2, none⟩ = some (.int .i64 0) := (blk_cell BK704.out 2).trans rfl
   have hfs47 := blk_frozen BK704.out 2
   have hns47_1 := NB741_704.out
   have hns47_2 := NB762_704.out
   have hms47_1 := NB704_741.out
   have hms47_2 := NB704_762.out
   have hs48 : w44.cell? ⟨gb704, 3, none⟩ = some (.int .i64 0) := (blk_cell BK704.out 3).trans rfl
   have hfs48 := blk_frozen BK704.out 3
   have hns48_1 := NB741_704.out
   have hns48_2 := NB762_704.out
   have hms48_1 := NB704_741.out
   have hms48_2 := NB704_762.out
   have hs49 : w44.cell? ⟨gb704, 4, none⟩ = some (.string (⟨#[]⟩ : ByteArray)) := (blk_cell BK704.out 4).trans rfl
   have hfs49 := blk_frozen BK704.out 4
   have hns49_1 := NB741_704.out
   have hns49_2 := NB762_704.out
   have hms49_1 := NB704_741.out
   have hms49_2 := NB704_762.out
   have hs50 : w44.cell? ⟨gb704, 5, none⟩ = some (.int .i64 0) := (blk_cell BK704.out 5).trans rfl
   have hfs50 := blk_frozen BK704.out 5
   have hns50_1 := NB741_704.out
   have hns50_2 := NB762_704.out
   have hms50_1 := NB704_741.out
   have hms50_2 := NB704_762.out
   have hs51 : w44.cell? ⟨gb704, 6, none⟩ = some (.string (⟨#[]⟩ : ByteArray)) := (blk_cell BK704.out 6).trans rfl
   have hfs51 := blk_frozen BK704.out 6
   have hns51_1 := NB741_704.out
   have hns51_2 := NB762_704.out
   have hms51_1 := NB704_741.out
   have hms51_2 := NB704_762.out
   have hs53 : w44.cell? ⟨gb704, 7, none⟩ = some (.slice none 0 0) := (blk_cell BK704.out 7).trans rfl
   have hfs53 := blk_frozen BK704.out 7
   have hns53_1 := NB741_704.out
   have hns53_2 := NB762_704.out
   have hms53_1 := NB704_741.out
   have hms53_2 := NB704_762.out
   refine skip_ (w1 := ?_) (by rfl) rfl ?_ ?_
   rotate_left
   ·go_simp
    rfl
   refine hK.out _ _ ⟨(cf hHeld.1), (cf hHeld.2.1), (cf hHeld.2.2.1), (cf hHeld.2.2.2.1), (cf hHeld.2.2.2.2.1), (cf hHeld.2.2.2.2.2.1), (cf hHeld.2.2.2.2.2.2.1), (cf hHeld.2.2.2.2.2.2.2.1), (cf hHeld.2.2.2.2.2.2.2.2.1), (cf hHeld.2.2.2.2.2.2.2.2.2.1), (cf hHeld.2.2.2.2.2.2.2.2.2.2.1), (cf hHeld.2.2.2.2.2.2.2.2.2.2.2.1), (cf hHeld.2.2.2.2.2.2.2.2.2.2.2.2.1), (cf hHeld.2.2.2.2.2.2.2.2.2.2.2.2.2.1), (cf hHeld.2.2.2.2.2.2.2.2.2.2.2.2.2.2.1), (cf hHeld.2.2.2.2.2.2.2.2.2.2.2.2.2.2.2)⟩ (fun hHeld => ?_)
   clear hK K
   refine done_ (done_of HT_.out (by kernel_rfl)) ?_
   try go_wp2
   refine bodyPost_ret (results_cell_row rfl _ _ gb704 31 #[.int .i64 t786, .int .i64 t787, .int .i64 t788, .int .i64 t789, .string t790, .int .i64 t791, .string t792, .slice Ao52 t793.length co52] (0, 0) _ rfl (bp BK704.out) Tryz.underlying31 rfl (by kernel_rfl)) rfl ?_
   exact ⟨_, az, by (with_reducible repeat (first | apply Kd.V_alloc | apply Kd.V_drewN | apply Kd.V_drew)); exact Kd.V_mono (Kd.V_far (p := ⟨gb704, 7, none⟩) (Kd.V_far (p := ⟨gb704, 6, none⟩) (Kd.V_far (p := ⟨gb704, 5, none⟩) (Kd.V_far (p := ⟨gb704, 4, none⟩) (Kd.V_far (p := ⟨gb704, 3, none⟩) (Kd.V_far (p := ⟨gb704, 2, none⟩) (Kd.V_far (p := ⟨gb704, 1, none⟩) (Kd.V_far (p := ⟨gb704, 0, none⟩) (Kd.V_mono HO795.out (fun k_ hk => (⟨hk, hk.2.1⟩ : _ ∧ k_ ≠ gb704))) (fun _ hk => hk.2) (.int .i64 t786)) (fun _ hk => hk.2) (.int .i64 t787)) (fun _ hk => hk.2) (.int .i64 t788)) (fun _ hk => hk.2) (.int .i64 t789)) (fun _ hk => hk.2) (.string t790)) (fun _ hk => hk.2) (.int .i64 t791)) (fun _ hk => hk.2) (.string t792)) (fun _ hk => hk.2) (.slice Ao52 t793.length co52)) (fun _ hk => hk.1.1), hz HI0.out, bz HB.out, kz HK.out⟩
end Go.Proofs.YtgkemhgihbfmmaaGreatDoor.PA
end
section
namespace Go.Proofs.YtgkemhgihbfmmaaGreatDoor.PA
open Go.RowKit Go.Proofs.YtgkemhgihbfmmaaGreatDoorW.PrintWords Go.Proofs.YtgkemhgihbfmmaaGreatDoorW.PrintLast Go.Proofs.YtgkemhgihbfmmaaGreatDoorW.PrintMore
attribute [local go_sem] max2_int min2_int max_two min_two max_three min_three max_four min_four isSome_set str_gtr
set_option linter.unusedVariables false
set_option linter.unusedSimpArgs false
theorem expr_Parser_Expr.all (k : Nat) : (∀ (g : Nat) (s0_0 : List (S136)) (s0_1 s0_2 s0_3 s0_4 s0_5 a1 r1 r2 r3 r4 : Int) (r5 : ByteArray) (r6 : Int) (r7 : ByteArray) (r8 : List (S31)) (r9 r10 r11 r12 r13 : Int) (w0 w : World) (hI : IsS63 w0 w g s0_0 s0_1 s0_2 s0_3 s0_4 s0_5) (hB : Below w0.heap.size w0 w) (h : expr_Parser_prefix.f k s0_0 s0_1 s0_2 s0_3 s0_4 s0_5 a1 = some (r1, r2, r3, r4, r5, r6, r7, r8, r9, r10, r11, r12, r13)),
  Calls Tryz.prog 109 #[.pointer (some ⟨g, 0, none⟩), .int .i64 a1] w fun e w' => ∃ v7_ : Value, e = .returned (.agg #[.int .i64 r1, .int .i64 r2, .int .i64 r3, .int .i64 r4, .string r5, .int .i64 r6, .string r7, v7_]) ∧ Kd.V k31 31 w' w.heap.size (fun k_ => (w.heap.size ≤ k_)) v7_ r8 ∧ IsS63 w0 w' g s0_0 r9 r10 r11 r12 r13 ∧ Below w0.heap.size w0 w' ∧ KeepBut w w' g none) ∧
 (∀ (g : Nat) (s0_0 : List (S136)) (s0_1 s0_2 s0_3 s0_4 s0_5 a1 a2 r1 r2 r3 r4 : Int) (r5 : ByteArray) (r6 : Int) (r7 : ByteArray) (r8 : List (S31)) (r9 r10 r11 r12 r13 : Int) (w0 w : World) (hI : IsS63 w0 w g s0_0 s0_1 s0_2 s0_3 s0_4 s0_5) (hB : Below w0.heap.size w0 w) (h : expr_Parser_chain.f k s0_0 s0_1 s0_2 s0_3 s0_4 s0_5 a1 a2 = some (r1, r2, r3, r4, r5, r6, r7, r8, r9, r10, r11, r12, r13)),
  Calls Tryz.prog 64 #[.pointer (some ⟨g, 0, none⟩), .int .i64 a1, .int .i64 a2] w fun e w' => ∃ v7_ : Value, e = .returned (.agg #[.int .i64 r1, .int .i64 r2, .int .i64 r3, .int .i64 r4, .string r5, .int .i64 r6, .string r7, v7_]) ∧ Kd.V k31 31 w' w.heap.size (fun k_ => (w.heap.size ≤ k_)) v7_ r8 ∧ IsS63 w0 w' g s0_0 r9 r10 r11 r12 r13 ∧ Below w0.heap.size w0 w' ∧ KeepBut w w' g none) ∧
 (∀ (g : Nat) (s0_0 : List (S136)) (s0_1 s0_2 s0_3 s0_4 s0_5 a1 r1 r2 r3 r4 : Int) (r5 : ByteArray) (r6 : Int) (r7 : ByteArray) (r8 : List (S31)) (r9 r10 r11 r12 r13 : Int) (w0 w : World) (hI : IsS63 w0 w g s0_0 s0_1 s0_2 s0_3 s0_4 s0_5) (hB : Below w0.heap.size w0 w) (h : expr_Parser_Expr.f k s0_0 s0_1 s0_2 s0_3 s0_4 s0_5 a1 = some (r1, r2, r3, r4, r5, r6, r7, r8, r9, r10, r11, r12, r13)),
  Calls Tryz.prog 31 #[.pointer (some ⟨g, 0, none⟩), .int .i64 a1] w fun e w' => ∃ v7_ : Value, e = .returned (.agg #[.int .i64 r1, .int .i64 r2, .int .i64 r3, .int .i64 r4, .string r5, .int .i64 r6, .string r7, v7_]) ∧ Kd.V k31 31 w' w.heap.size (fun k_ => (w.heap.size ≤ k_)) v7_ r8 ∧ IsS63 w0 w' g s0_0 r9 r10 r11 r12 r13 ∧ Below w0.heap.size w0 w' ∧ KeepBut w w' g none) := by
 induction k using Nat.strongRecOn with
 | _ k ih => exact ⟨expr_Parser_prefix.step k (fun k' hk' => (ih k' hk').1) (fun k' hk' => (ih k' hk').2.1) (fun k' hk' => (ih k' hk').2.2), expr_Parser_chain.step k (fun k' hk' => (ih k' hk').1) (fun k' hk' => (ih k' hk').2.1) (fun k' hk' => (ih k' hk').2.2), expr_Parser_Expr.step k (fun k' hk' => (ih k' hk').1) (fun k' hk' => (ih k' hk').2.1) (fun k' hk' => (ih k' hk').2.2)⟩
theorem expr_Parser_Expr.calls (k : Nat) : ∀ (g : Nat) (s0_0 : List (S136)) (s0_1 s0_2 s0_3 s0_4 s0_5 a1 r1 r2 r3 r4 : Int) (r5 : ByteArray) (r6 : Int) (r7 : ByteArray) (r8 : List (S31)) (r9 r10 r11 r12 r13 : Int) (w0 w : World) (hI : IsS63 w0 w g s0_0 s0_1 s0_2 s0_3 s0_4 s0_5) (hB : Below w0.heap.size w0 w) (h : expr_Parser_Expr.f k s0_0 s0_1 s0_2 s0_3 s0_4 s0_5 a1 = some (r1, r2, r3, r4, r5, r6, r7, r8, r9, r10, r11, r12, r13)),
  Calls Tryz.prog 31 #[.pointer (some ⟨g, 0, none⟩), .int .i64 a1] w fun e w' => ∃ v7_ : Value, e = .returned (.agg #[.int .i64 r1, .int .i64 r2, .int .i64 r3, .int .i64 r4, .string r5, .int .i64 r6, .string r7, v7_]) ∧ Kd.V k31 31 w' w.heap.size (fun k_ => (w.heap.size ≤ k_)) v7_ r8 ∧ IsS63 w0 w' g s0_0 r9 r10 r11 r12 r13 ∧ Below w0.heap.size w0 w' ∧ KeepBut w w' g none := (expr_Parser_Expr.all k).2.2
end Go.Proofs.YtgkemhgihbfmmaaGreatDoor.PA
end
section
namespace Go.Proofs.YtgkemhgihbfmmaaGreatDoor.PA
open Go.RowKit Go.Proofs.YtgkemhgihbfmmaaGreatDoorW.PrintWords Go.Proofs.YtgkemhgihbfmmaaGreatDoorW.PrintLast Go.Proofs.YtgkemhgihbfmmaaGreatDoorW.PrintMore
attribute [local go_sem] max2_int min2_int max_two min_two max_three min_three max_four min_four isSome_set str_gtr
set_option linter.unusedVariables false
set_option linter.unusedSimpArgs false
def expr_Parser_Ended.f (s0_0 : List (S136)) (s0_1 s0_2 s0_3 s0_4 s0_5 : Int) : Option (Bool × Int × Int × Int × Int × Int) := if s0_4 = 0 then (some ((s0_1 == (s0_0.length : Int)), s0_1, s0_2, s0_3, s0_4, s0_5)) else (some (false, s0_1, s0_2, s0_3, s0_4, s0_5))
set_option maxHeartbeats 8000000 in
set_option maxRecDepth 100000 in
theorem expr_Parser_Ended.calls (g : Nat) (s0_0 : List (S136)) (s0_1 s0_2 s0_3 s0_4 s0_5 : Int) (r1 : Bool) (r2 r3 r4 r5 r6 : Int) (w0 w : World) (hI : IsS63 w0 w g s0_0 s0_1 s0_2 s0_3 s0_4 s0_5) (hB : Below w0.heap.size w0 w) (h : expr_Parser_Ended.f s0_0 s0_1 s0_2 s0_3 s0_4 s0_5 = some (r1, r2, r3, r4, r5, r6)) :
  Calls Tryz.prog 32 #[.pointer (some ⟨g, 0, none⟩)] w fun e w' => e = .returned (.bool r1) ∧ IsS63 w0 w' g s0_0 r2 r3 r4 r5 r6 ∧ Below w0.heap.size w0 w' ∧ KeepBut w w' g none := by
 have HI0 := am hI
 have HK := am (KeepBut.refl w g none)
 have HL := am hB.size
 clear hI
 have HW0 := am hB.size
 have HB := am hB
 clear hB
 have H : (if s0_4 = 0 then (some ((s0_1 == (s0_0.length : Int)), s0_1, s0_2, s0_3, s0_4, s0_5)) else (some (false, s0_1, s0_2, s0_3, s0_4, s0_5))) = some (r1, r2, r3, r4, r5, r6) := h
 clear h
 by_cases c2 : s0_4 = 0
 ·replace H := ipe c2 H
  obtain ⟨H, c2b0, c2b1⟩ := H
  clear c2
  simp only [Option.some.injEq, Prod.mk.injEq] at H
  obtain ⟨rfl, rfl, rfl, rfl, rfl, rfl⟩ := H
  obtain ⟨ASz3_0, cSz3_0, HSz3_0, Z3_0, Z3_1, Z3_2, Z3_3, Z3_4, Z3_5, F3_1, F3_2, F3_3, F3_4, F3_5⟩ := open63 HI0.out
  go_enter Tryz.func32, Tryz.ntmps32
  go_wp2
  repeat (go_quiet (fail); try go_wp2)
  go_ret
  exact ⟨az, hz HI0.out, bz HB.out, kz HK.out⟩
 replace H := ine c2 H
 obtain ⟨H, c2b0, c2b1⟩ := H
 simp only [Option.some.injEq, Prod.mk.injEq] at H
 obtain ⟨rfl, rfl, rfl, rfl, rfl, rfl⟩ := H
 obtain ⟨ASz4_0, cSz4_0, HSz4_0, Z4_0, Z4_1, Z4_2, Z4_3, Z4_4, Z4_5, F4_1, F4_2, F4_3, F4_4, F4_5⟩ := open63 HI0.out
 go_enter Tryz.func32, Tryz.ntmps32
 go_wp2
 repeat (go_quiet (fail); try go_wp2)
 go_ret
 exact ⟨az, hz HI0.out, bz HB.out, kz HK.out⟩
end Go.Proofs.YtgkemhgihbfmmaaGreatDoor.PA
end
section
namespace Go.Proofs.YtgkemhgihbfmmaaGreatDoor.PA
open Go.RowKit Go.Proofs.YtgkemhgihbfmmaaGreatDoorW.PrintWords Go.Proofs.YtgkemhgihbfmmaaGreatDoorW.PrintLast Go.Proofs.YtgkemhgihbfmmaaGreatDoorW.PrintMore
attribute [local go_sem] max2_int min2_int max_two min_two max_three min_three max_four min_four isSome_set str_gtr
set_option linter.unusedVariables false
set_option linter.unusedSimpArgs false
def expr_Parser_Error.f (s0_0 : List (S136)) (s0_1 s0_2 s0_3 s0_4 s0_5 : Int) : Option (Int × Int × Int × Int × Int × Int × Int) := some (s0_3, s0_4, s0_1, s0_2, s0_3, s0_4, s0_5)
set_option maxHeartbeats 8000000 in
set_option maxRecDepth 100000 in
theorem expr_Parser_Error.calls (g : Nat) (s0_0 : List (S136)) (s0_1 s0_2 s0_3 s0_4 s0_5 r1 r2 r3 r4 r5 r6 r7 : Int) (w0 w : World) (hI : IsS63 w0 w g s0_0 s0_1 s0_2 s0_3 s0_4 s0_5) (hB : Below w0.heap.size w0 w) (h : expr_Parser_Error.f s0_0 s0_1 s0_2 s0_3 s0_4 s0_5 = some (r1, r2, r3, r4, r5, r6, r7)) :
  Calls Tryz.prog 34 #[.pointer (some ⟨g, 0, none⟩)] w fun e w' => e = .returned (.tuple #[.int .i64 r1, .int .i64 r2]) ∧ IsS63 w0 w' g s0_0 r3 r4 r5 r6 r7 ∧ Below w0.heap.size w0 w' ∧ KeepBut w w' g none := by
 have HI0 := am hI
 have HK := am (KeepBut.refl w g none)
 have HL := am hB.size
 clear hI
 have HW0 := am hB.size
 have HB := am hB
 clear hB
 have H : (some (s0_3, s0_4, s0_1, s0_2, s0_3, s0_4, s0_5)) = some (r1, r2, r3, r4, r5, r6, r7) := h
 clear h
 simp only [Option.some.injEq, Prod.mk.injEq] at H
 obtain ⟨rfl, rfl, rfl, rfl, rfl, rfl, rfl⟩ := H
 obtain ⟨ASz2_0, cSz2_0, HSz2_0, Z2_0, Z2_1, Z2_2, Z2_3, Z2_4, Z2_5, F2_1, F2_2, F2_3, F2_4, F2_5⟩ := open63 HI0.out
 go_enter Tryz.func34, Tryz.ntmps34
 go_wp2
 repeat (go_quiet (fail); try go_wp2)
 go_ret2
 exact ⟨az, hz HI0.out, bz HB.out, kz HK.out⟩
end Go.Proofs.YtgkemhgihbfmmaaGreatDoor.PA
end
section
namespace Go.Proofs.YtgkemhgihbfmmaaGreatDoor.PA
open Go.RowKit Go.Proofs.YtgkemhgihbfmmaaGreatDoorW.PrintWords Go.Proofs.YtgkemhgihbfmmaaGreatDoorW.PrintLast Go.Proofs.YtgkemhgihbfmmaaGreatDoorW.PrintMore
attribute [local go_sem] max2_int min2_int max_two min_two max_three min_three max_four min_four isSome_set str_gtr
set_option linter.unusedVariables false
set_option linter.unusedSimpArgs false
end Go.Proofs.YtgkemhgihbfmmaaGreatDoor.PA
end
section
namespace Go.Proofs.YtgkemhgihbfmmaaGreatDoor.PA
open Go.RowKit Go.Proofs.YtgkemhgihbfmmaaGreatDoorW.PrintWords Go.Proofs.YtgkemhgihbfmmaaGreatDoorW.PrintLast Go.Proofs.YtgkemhgihbfmmaaGreatDoorW.PrintMore
def expr_NewParser.f (k : Nat) (a0 : ByteArray) : Option (List S136 × Int × Int × Int × Int × Int) := (lex_Tokens.f k a0).bind fun r => some (r.1, 0, (a0.size : Int), r.2.1, r.2.2, 0)
theorem expr_NewParser.mono : ∀ a0 k, LeO (expr_NewParser.f k a0) (expr_NewParser.f (k + 1) a0) := fun a0 k => LeO.bind (lex_Tokens.mono a0 k) fun _ => LeO.refl _
set_option maxHeartbeats 4000000 in
set_option maxRecDepth 100000 in
theorem expr_NewParser.calls (k : Nat) (a0 : ByteArray) (t0 : List S136) (t1 t2 t3 t4 t5 : Int) (w : World) (hT : Tabs w) (h : expr_NewParser.f k a0 = some (t0, t1, t2, t3, t4, t5)) :
    Calls Tryz.prog 30 #[.string a0] w fun e w' => ∃ g w1, e = .returned (.pointer (some ⟨g, 0, none⟩)) ∧ IsS63 w1 w' g t0 t1 t2 t3 t4 t5 ∧ Below w.heap.size w w1 ∧ Below w1.heap.size w1 w' := by
  obtain ⟨⟨l, x3, x4⟩, hk, h⟩ := Option.bind_eq_some_iff.mp h
  simp only [Option.some.injEq, Prod.mk.injEq] at h
  obtain ⟨rfl, rfl, rfl, rfl, rfl, rfl⟩ := h
  have cK := lex_Tokens.calls k a0 l x3 x4 w hT hk
  have hu63 := Tryz.underlying63
  clear hk hT
  go_enter Tryz.func30, Tryz.ntmps30
  go_wp2_with (go_at_call 62; refine cK.mono ?_; rintro e w1 ⟨v, rfl, hR, hb⟩; obtain ⟨A, c, rfl⟩ := Kd.R_slice hR; have HR := Aside0.mk hR; have HB := Aside0.mk hb; clear hR hb)
  go_ret
  exact ⟨w1.heap.size, w1, rfl, ⟨A, c, blk_new w1 _, Nat.le_refl _, (Kd.R_reads' HR.out).2.2⟩, HB.out, below_alloc (Below.refl _ _) _⟩
end Go.Proofs.YtgkemhgihbfmmaaGreatDoor.PA
end
section
namespace Go.Proofs.YtgkemhgihbfmmaaGreatDoor.PA
open Go.RowKit Go.Proofs.YtgkemhgihbfmmaaGreatDoorW.PrintWords Go.Proofs.YtgkemhgihbfmmaaGreatDoorW.PrintLast Go.Proofs.YtgkemhgihbfmmaaGreatDoorW.PrintMore
attribute [local go_sem] isSome_set
def badPart (k : Nat) (x : S31) : Option Bool :=
  if (x.f0 == 2) != (x.f2.toList != []) then some true
  else (if x.f0 = 2 then (lex_Word.f k x.f2).bind fun ok => some (!ok) else some false).bind fun b1 =>
    if b1 = true then some true
    else if x.f0 ≠ 1 ∧ ¬ (x.f1.f0 = 0 ∧ x.f1.f1.f0 = 0 ∧ x.f1.f1.f1 = 0 ∧ x.f1.f2 = ⟨#[]⟩ ∧ x.f1.f3 = 0) then some true
    else (value_Sound.f k x.f1.f0 x.f1.f1.f0 x.f1.f1.f1 x.f1.f2 x.f1.f3).bind fun ok => some (!ok || decide (x.f1.f1.f0 < 0))
def allSound (s : S31 → Int → Option (Bool × Int)) : List S31 → Int → Option (Bool × Int)
  | [], L => some (true, L)
  | y :: t, L => (s y L).bind fun r => if r.1 = true then allSound s t r.2 else some (false, r.2)
def soundF : Nat → S31 → Int → Int → Option (Bool × Int)
  | 0, _, _, _ => none
  | k + 1, x, d, left =>
    if 64 < d then some (false, wrap64 (left - 1)) else if wrap64 (left - 1) < 0 then some (false, wrap64 (left - 1)) else
    (expr_kids.f k x.f0).bind fun n => if ¬ (x.f3.length : Int) = n then some (false, wrap64 (left - 1)) else
    (badPart k x).bind fun b => if b = true then some (false, wrap64 (left - 1)) else
    if x.f3.length < 4611686018427387904 then allSound (fun y L => soundF k y (wrap64 (d + 1)) L) x.f3 (wrap64 (left - 1)) else none
def expr_Sound.f (k : Nat) (a0 a1 a2 a3 : Int) (a4 : ByteArray) (a5 : Int) (a6 : ByteArray) (l7 : List S31) : Option Bool := (soundF k ⟨a0, ⟨a1, ⟨a2, a3⟩, a4, a5⟩, a6, l7⟩ 1 4096).bind fun r => some r.1
theorem allSound_mono {s s' : S31 → Int → Option (Bool × Int)} (h : ∀ y L, LeO (s y L) (s' y L)) : ∀ (l : List S31) (L : Int), LeO (allSound s l L) (allSound s' l L)
  | [], _ => LeO.refl _
  | y :: t, L => LeO.bind (h y L) fun r => LeO.ite (allSound_mono h t r.2) (LeO.refl _)
theorem badPart_mono (k : Nat) (x : S31) : LeO (badPart k x) (badPart (k + 1) x) := by
  unfold badPart
  refine LeO.ite (LeO.refl _) (LeO.bind ?_ fun b => ?_)
  · exact LeO.ite (LeO.bind (lex_Word.mono _ k) fun _ => LeO.refl _) (LeO.refl _)
  · exact LeO.ite (LeO.refl _) (LeO.ite (LeO.refl _) (LeO.bind (value_Sound.mono _ _ _ _ _ k) fun _ => LeO.refl _))
theorem soundF_mono : ∀ (k : Nat) (x : S31) (d left : Int), LeO (soundF k x d left) (soundF (k + 1) x d left)
  | 0, _, _, _ => LeO.none _
  | k + 1, x, d, left => by
    unfold soundF
    refine LeO.ite (LeO.refl _) (LeO.ite (LeO.refl _) (LeO.bind (expr_kids.mono _ k) fun n => LeO.ite (LeO.refl _) (LeO.bind (badPart_mono k x) fun b => LeO.ite (LeO.refl _) (LeO.ite ?_ (LeO.refl _)))))
    exact allSound_mono (fun y L => soundF_mono k y _ L) _ _
theorem expr_Sound.mono : ∀ a0 a1 a2 a3 a4 a5 a6 a7 k, LeO (expr_Sound.f k a0 a1 a2 a3 a4 a5 a6 a7) (expr_Sound.f (k + 1) a0 a1 a2 a3 a4 a5 a6 a7) := fun _ _ _ _ _ _ _ _ k => LeO.bind (soundF_mono k _ _ _) fun _ => LeO.refl _
abbrev cells31 (x : S31) (A : Option Addr) (c : Nat) : Array Value := #[.int .i64 x.f0, .int .i64 x.f1.f0, .int .i64 x.f1.f1.f0, .int .i64 x.f1.f1.f1, .string x.f1.f2, .int .i64 x.f1.f3, .string x.f2, .slice A x.f3.length c]
def SoundAt (k : Nat) : Prop := ∀ (x : S31) (A : Option Addr) (c : Nat) (d left : Int) (gl : Nat) (b : Bool) (L : Int) (w0 w : World) (_ : Kd.C k31 w0 A x.f3.length x.f3) (_ : x.f3.length ≤ c) (_ : Tabs w0) (_ : Below w0.heap.size w0 w) (_ : w.heap[gl]? = some (.cells #[.int .i64 left] 3 (0, 0))) (_ : w0.heap.size ≤ gl) (_ : soundF k x d left = some (b, L)),
  Calls Tryz.prog 68 #[.agg (cells31 x A c), .int .i64 d, .pointer (some ⟨gl, 0, none⟩)] w fun e w' => e = .returned (.bool b) ∧ Below w0.heap.size w0 w' ∧ w'.heap[gl]? = some (.cells #[.int .i64 L] 3 (0, 0)) ∧ KeepBut w w' gl none
set_option maxHeartbeats 4000000 in
set_option maxRecDepth 100000 in
theorem sound1_calls {k : Nat} (ih : SoundAt k) (x : S31) (A : Option Addr) (c : Nat) (d left : Int) (gl bd bp : Nat) (b : Bool) (L : Int) (w0 w : World) (hC : Kd.C k31 w0 A x.f3.length x.f3) (hc : x.f3.length ≤ c) (hT : Tabs w0) (hB : Below w0.heap.size w0 w) (hg : w.heap[gl]? = some (.cells #[.int .i64 left] 3 (0, 0))) (hge : w0.heap.size ≤ gl)
    (hd : w.heap[bd]? = some (.cells #[.int .i64 d] 3 (0, 0))) (hp : w.heap[bp]? = some (.cells #[.pointer (some ⟨gl, 0, none⟩)] 98 (0, 0))) (h : soundF k x (wrap64 (d + 1)) left = some (b, L)) :
    Calls Tryz.prog 114 #[.agg (cells31 x A c), .pointer (some ⟨bd, 0, none⟩), .pointer (some ⟨bp, 0, none⟩)] w fun e w' => e = .returned (.bool (!b)) ∧ Below w0.heap.size w0 w' ∧ w'.heap[gl]? = some (.cells #[.int .i64 L] 3 (0, 0)) ∧ KeepBut w w' gl none := by
  have HB := Aside0.mk hB
  have HG := Aside0.mk hg
  have HD := Aside0.mk hd
  have HP := Aside0.mk hp
  have HS := Aside0.mk hB.size
  have hu31 := Tryz.underlying31
  clear hB hg hd hp
  have e68 : ∀ args w, (callFunc 68 args).run Tryz.prog w = .ok (.enter 68 args) w := enters_of Tryz.func68 (by kernel_rfl) rfl
  go_enter Tryz.func114, Tryz.ntmps114
  go_wp2_with (first
    | ((with_reducible refine gate_dst (N := 3) rfl ?_); refine bev (cells31 x A c) 31 ?_; intro gx hgx w1 hbox hb1
       have HX := Aside0.mk hbox; have HG1 := Aside0.mk (blk_below HG.out hb1); have HD1 := Aside0.mk (blk_below HD.out hb1); have HP1 := Aside0.mk (blk_below HP.out hb1)
       have HB1 := Aside0.mk (HB.out.trans (hb1.mono HS.out)); have HK1 := Aside0.mk (KeepBut.of_below hb1 gl none)
       have hcx := cz8 HX.out; have hcd := czc1 HD1.out; have hcp := czc1 HP1.out; obtain ⟨q0, q1, q2, q3, q4, q5, q6, q7, _⟩ := hcx; clear hgx hbox hb1)
    | (go_at_call 68; refine (ih x A c (wrap64 (d + 1)) left gl b L w0 _ hC hc hT HB1.out HG1.out hge h).mono ?_; rintro e w2 ⟨rfl, hb2, hg2, hk2⟩))
  go_ret
  exact ⟨rfl, hb2, hg2, KeepBut.trans HK1.out hk2 (.inl rfl)⟩
theorem drop_at {l : List S31} {i : Nat} (h : i < l.length) : l.drop i = rd_T31 l (i : Int) :: l.drop (i + 1) := by
  rw [List.drop_eq_getElem_cons h]
  congr 1
  show _ = l.getD (Int.toNat (i : Int)) z31
  rw [Int.toNat_natCast, List.getD_eq_getElem?_getD, List.getElem?_eq_getElem h, Option.getD_some]
set_option maxHeartbeats 4000000 in
set_option maxRecDepth 100000 in
theorem idx31 {k : Nat} (ih : SoundAt k) (l : List S31) (A0 : Option Addr) (c0 : Nat) (d left : Int) (gl bd bp : Nat) (b : Bool) (L : Int) (w0 w : World) (hC : Kd.C k31 w0 A0 l.length l) (hT : Tabs w0) (hB : Below w0.heap.size w0 w) (hg : w.heap[gl]? = some (.cells #[.int .i64 left] 3 (0, 0))) (hge : w0.heap.size ≤ gl)
    (hd : w.heap[bd]? = some (.cells #[.int .i64 d] 3 (0, 0))) (hp : w.heap[bp]? = some (.cells #[.pointer (some ⟨gl, 0, none⟩)] 98 (0, 0))) (hnd : bd ≠ gl) (hnp : bp ≠ gl) (hbig : l.length < 4611686018427387904) (h : allSound (fun y L => soundF k y (wrap64 (d + 1)) L) l left = some (b, L)) :
    Calls Tryz.prog 154 #[.slice A0 l.length c0, .func (.func 114) #[] #[.pointer (some ⟨bd, 0, none⟩), .pointer (some ⟨bp, 0, none⟩)]] w fun e w' => ∃ i : Int, e = .returned (.int .i64 i) ∧ decide (0 ≤ i) = !b ∧ Below w0.heap.size w0 w' ∧ w'.heap[gl]? = some (.cells #[.int .i64 L] 3 (0, 0)) ∧ KeepBut w w' gl none := by
  have eg : ∀ args w, (callFunc 114 args).run Tryz.prog w = .ok (.enter 114 args) w := enters_of Tryz.func114 (by kernel_rfl) rfl
  have hu31 := Tryz.underlying31
  have H0 : Aside0 (allSound (fun y L => soundF k y (wrap64 (d + 1)) L) (l.drop 0) left = some (b, L)) := ⟨h⟩
  have HC := Aside0.mk hC
  have HB := Aside0.mk hB
  have HG := Aside0.mk hg
  have HD := Aside0.mk hd
  have HP := Aside0.mk hp
  clear h hC hB hg hd hp
  go_enter Tryz.func154, Tryz.ntmps154
  go_wp2
  go_loopg [5, 8] l.length (fun gg _ s8 wr => ∃ (kk : Nat) (Lk : Int), kk + gg = l.length ∧ s8 = .int .i64 kk ∧ Aside0 (allSound (fun y L => soundF k y (wrap64 (d + 1)) L) (l.drop kk) Lk = some (b, L)) ∧ Aside0 (Below w0.heap.size w0 wr) ∧ Aside0 (wr.heap[gl]? = some (.cells #[.int .i64 Lk] 3 (0, 0))) ∧ Aside0 (KeepBut w wr gl none))
  case atStart => exact ⟨0, left, Nat.zero_add _, rfl, H0, HB, HG, ⟨KeepBut.refl w gl none⟩⟩
  case round =>
    obtain ⟨kk, Lk, hkg, rfl, HA, HB1, HG1, HK1⟩ := hrel
    cases gk with
    | zero =>
      have d1 : decide ((kk : Int) < (l.length : Int)) = false := decide_eq_false (by omega)
      have hA := HA.out
      rw [List.drop_eq_nil_of_le (by omega)] at hA
      simp only [allSound, Option.some.injEq, Prod.mk.injEq] at hA
      obtain ⟨rfl, rfl⟩ := hA
      go_wp2
      go_ret
      exact ⟨_, rfl, rfl, HB1.out, HG1.out, HK1.out⟩
    | succ n =>
      have d1 : decide ((kk : Int) < (l.length : Int)) = true := decide_eq_true (by omega)
      have p1 : (0 : Int) ≤ (kk : Int) := by omega
      have q1 : (kk : Int) < (l.length : Int) := by omega
      obtain ⟨ad, A7, c7, e1, h0, h1, h2, h3, h4, h5, h6, h7, l7, g7⟩ := at_T31 HC.out (kk : Int) p1 q1
      cases e1
      have hA := HA.out
      rw [drop_at (by omega)] at hA
      generalize hy : rd_T31 l (kk : Int) = y at hA h0 h1 h2 h3 h4 h5 h6 h7 l7 g7
      clear hy
      have h0 : wr.cell? (ad.add (kk * 8)) = some (.int .i64 y.f0) := pw_cell_below HB1.out h0
      have h1 : wr.cell? ⟨(ad.add (kk * 8)).block, (ad.add (kk * 8)).off + 1, none⟩ = some (.int .i64 y.f1.f0) := pw_cell_below HB1.out h1
      have h2 : wr.cell? ⟨(ad.add (kk * 8)).block, (ad.add (kk * 8)).off + 2, none⟩ = some (.int .i64 y.f1.f1.f0) := pw_cell_below HB1.out h2
      have h3 : wr.cell? ⟨(ad.add (kk * 8)).block, (ad.add (kk * 8)).off + 3, none⟩ = some (.int .i64 y.f1.f1.f1) := pw_cell_below HB1.out h3
      have h4 : wr.cell? ⟨(ad.add (kk * 8)).block, (ad.add (kk * 8)).off + 4, none⟩ = some (.string y.f1.f2) := pw_cell_below HB1.out h4
      have h5 : wr.cell? ⟨(ad.add (kk * 8)).block, (ad.add (kk * 8)).off + 5, none⟩ = some (.int .i64 y.f1.f3) := pw_cell_below HB1.out h5
      have h6 : wr.cell? ⟨(ad.add (kk * 8)).block, (ad.add (kk * 8)).off + 6, none⟩ = some (.string y.f2) := pw_cell_below HB1.out h6
      have h7 : wr.cell? ⟨(ad.add (kk * 8)).block, (ad.add (kk * 8)).off + 7, none⟩ = some (.slice A7 y.f3.length c7) := pw_cell_below HB1.out h7
      have i1 := eq_true p1
      have i2 := eq_true q1
      have i3 : (kk < l.length) = True := eq_true (by omega)
      simp only [allSound] at hA
      replace hA := Option.bind_eq_some_iff.mp hA
      obtain ⟨⟨b1, L1⟩, hIs, hA⟩ := hA
      have hd1 : wr.heap[bd]? = some (.cells #[.int .i64 d] 3 (0, 0)) := (HK1.out.2 bd (blk_lt HD.out) hnd (by simp)).trans HD.out
      have hp1 : wr.heap[bp]? = some (.cells #[.pointer (some ⟨gl, 0, none⟩)] 98 (0, 0)) := (HK1.out.2 bp (blk_lt HP.out) hnp (by simp)).trans HP.out
      have cI := sound1_calls ih y A7 c7 d Lk gl bd bp b1 L1 w0 wr g7 l7 hT HB1.out HG1.out hge hd1 hp1 hIs
      have HA2 := Aside0.mk hA
      clear hA hIs hd1 hp1 g7 l7
      cases b1 with
      | true =>
        have hr := HA2.out
        simp only [if_true] at hr
        have HA3 := Aside0.mk hr
        clear hr
        go_wp2_with (go_at_fn 114; refine cI.mono ?_; rintro e w' ⟨rfl, hb, hg, hk⟩)
        go_roundg n
        case measure => omega
        case rel => exact ⟨kk + 1, L1, by omega, by go_num, HA3, ⟨hb⟩, ⟨hg⟩, ⟨KeepBut.trans HK1.out hk (.inl rfl)⟩⟩
      | false =>
        have hr := HA2.out
        simp only [Bool.false_eq_true, if_false, Option.some.injEq, Prod.mk.injEq] at hr
        obtain ⟨rfl, rfl⟩ := hr
        go_wp2_with (go_at_fn 114; refine cI.mono ?_; rintro e w' ⟨rfl, hb, hg, hk⟩)
        go_ret
        exact ⟨_, rfl, by simp, hb, hg, KeepBut.trans HK1.out hk (.inl rfl)⟩
set_option maxHeartbeats 4000000 in
theorem has31 {k : Nat} (ih : SoundAt k) (l : List S31) (A0 : Option Addr) (c0 : Nat) (d left : Int) (gl bd bp : Nat) (b : Bool) (L : Int) (w0 w : World) (hC : Kd.C k31 w0 A0 l.length l) (hT : Tabs w0) (hB : Below w0.heap.size w0 w) (hg : w.heap[gl]? = some (.cells #[.int .i64 left] 3 (0, 0))) (hge : w0.heap.size ≤ gl)
    (hd : w.heap[bd]? = some (.cells #[.int .i64 d] 3 (0, 0))) (hp : w.heap[bp]? = some (.cells #[.pointer (some ⟨gl, 0, none⟩)] 98 (0, 0))) (hnd : bd ≠ gl) (hnp : bp ≠ gl) (hbig : l.length < 4611686018427387904) (h : allSound (fun y L => soundF k y (wrap64 (d + 1)) L) l left = some (b, L)) :
    Calls Tryz.prog 113 #[.slice A0 l.length c0, .func (.func 114) #[] #[.pointer (some ⟨bd, 0, none⟩), .pointer (some ⟨bp, 0, none⟩)]] w fun e w' => e = .returned (.bool (!b)) ∧ Below w0.heap.size w0 w' ∧ w'.heap[gl]? = some (.cells #[.int .i64 L] 3 (0, 0)) ∧ KeepBut w w' gl none := by
  have cI := idx31 ih l A0 c0 d left gl bd bp b L w0 w hC hT hB hg hge hd hp hnd hnp hbig h
  clear hC hT hB hg hge hd hp hnd hnp hbig h
  go_enter Tryz.func113, Tryz.ntmps113
  go_wp2_with (go_at_call 154; refine cI.mono ?_; rintro e w' ⟨i, rfl, hi, hb, hg, hk⟩)
  go_ret
  exact ⟨by rw [← hi] <;> rfl, hb, hg, hk⟩
attribute [local go_sem high] eqA25
theorem bytes_nil {b : ByteArray} (h : b.toList = []) : b = ⟨#[]⟩ := by
  rw [Lib.toList_data] at h
  obtain ⟨⟨l⟩⟩ := b
  simp at h
  subst h
  rfl
theorem nz_false {vk vn vs vx : Int} {vt : ByteArray} (hz : ¬ (vk = 0 ∧ vn = 0 ∧ vs = 0 ∧ vt = (⟨#[]⟩ : ByteArray) ∧ vx = 0)) : (vk == 0 && ((vn == 0 && (vs == 0)) && (vt.toList == ([] : List UInt8) && (vx == 0)))) = false := by
  rw [Bool.eq_false_iff]
  intro q
  simp only [Bool.and_eq_true, beq_iff_eq] at q
  exact hz ⟨q.1, q.2.1.1, q.2.1.2, bytes_nil q.2.2.1, q.2.2.2⟩
set_option maxHeartbeats 8000000 in
set_option maxRecDepth 100000 in
theorem sound_step {k : Nat} (ih : SoundAt k) : SoundAt (k + 1) := by
  rintro ⟨op, ⟨vk, ⟨vn, vs⟩, vt, vx⟩, nm, l⟩ A c d left gl b L w0 w hC hc hT hB hg hge h
  simp only [soundF] at h
  have HC := Aside0.mk hC
  have Hc := Aside0.mk hc
  have HT := Aside0.mk hT
  have HB := Aside0.mk hB
  have HG := Aside0.mk hg
  have HE := Aside0.mk hge
  have HL := Aside0.mk (blk_lt hg)
  have HS := Aside0.mk hB.size
  have H := Aside0.mk h
  have hu31 := Tryz.underlying31
  have hu25 := Tryz.underlying25
  have hu23 := Tryz.underlying23
  clear hC hc hT hB hg hge h
  go_enter Tryz.func68, Tryz.ntmps68
  go_upto_region 2 with (first
    | ((with_reducible refine gate_dst (N := 3) rfl ?_); refine bev (cells31 ⟨op, ⟨vk, ⟨vn, vs⟩, vt, vx⟩, nm, l⟩ A c) 31 ?_; intro gx hgx w1 hbox hb1
       have HX := Aside0.mk hbox; replace HG := Aside0.mk (blk_below HG.out hb1); replace HB := Aside0.mk (HB.out.trans (hb1.mono HS.out)); have HK := Aside0.mk (KeepBut.of_below hb1 gl none)
       have hxg : gx ≠ gl := by have := HL.out; omega
       have hgx1 : gl ≠ gx := hxg.symm
       replace HL := Aside0.mk (blk_lt HG.out); replace HS := Aside0.mk HB.out.size; clear hgx hbox hb1)
    | ((with_reducible refine gate_dst (N := 4) rfl ?_); refine bev (#[.int .i64 d]) 3 ?_; intro gd hgd w2 hbox hb1
       have HD := Aside0.mk hbox; have hdx := nlt hgd (blk_lt HX.out); have hxd := hdx.symm; replace HX := Aside0.mk (blk_below HX.out hb1); replace HG := Aside0.mk (blk_below HG.out hb1); replace HB := Aside0.mk (HB.out.trans (hb1.mono HS.out)); replace HK := Aside0.mk (KeepBut.trans HK.out (KeepBut.of_below hb1 gl none) (.inl rfl))
       have hdg : gd ≠ gl := by have := HL.out; omega
       have hgd1 : gl ≠ gd := hdg.symm
       replace HL := Aside0.mk (blk_lt HG.out); replace HS := Aside0.mk HB.out.size; clear hgd hbox hb1)
    | ((with_reducible refine gate_dst (N := 5) rfl ?_); refine bev (#[.pointer (some ⟨gl, 0, none⟩)]) 98 ?_; intro gp hgp w3 hbox hb1
       have HP := Aside0.mk hbox; have hpx := nlt hgp (blk_lt HX.out); have hpd := nlt hgp (blk_lt HD.out); replace HD := Aside0.mk (blk_below HD.out hb1); replace HX := Aside0.mk (blk_below HX.out hb1); replace HG := Aside0.mk (blk_below HG.out hb1); replace HB := Aside0.mk (HB.out.trans (hb1.mono HS.out)); replace HK := Aside0.mk (KeepBut.trans HK.out (KeepBut.of_below hb1 gl none) (.inl rfl))
       have hpg : gp ≠ gl := by have := HL.out; omega
       have hgp1 : gl ≠ gp := hpg.symm
       have hcp := czc1 HP.out; obtain ⟨hcg, hfg⟩ := cz1 HG.out
       clear hgp hbox hb1))
  have HX2 := Aside0.mk (blk_far HX.out hxg (p := ⟨gl, 0, none⟩) (.int .i64 (wrap64 (left - 1))))
  have HD2 := Aside0.mk (blk_far HD.out hdg (p := ⟨gl, 0, none⟩) (.int .i64 (wrap64 (left - 1))))
  have HP2 := Aside0.mk (blk_far HP.out hpg (p := ⟨gl, 0, none⟩) (.int .i64 (wrap64 (left - 1))))
  have HG2 := Aside0.mk (blk_put (cs := #[.int .i64 left]) (cs' := #[.int .i64 (wrap64 (left - 1))]) HG.out 0 (.int .i64 (wrap64 (left - 1))) rfl)
  have HB2 := Aside0.mk (HB.out.setCell (p := ⟨gl, 0, none⟩) HE.out (.int .i64 (wrap64 (left - 1))))
  have HK2 := Aside0.mk (KeepBut.set_ HK.out 0 (.int .i64 (wrap64 (left - 1))))
  (try simp only [Act.put, List.setIfInBounds_toArray, List.set_cons_zero, List.set_cons_succ])
  obtain ⟨Lv, hLv⟩ : ∃ Lv, wrap64 (left - 1) = Lv := ⟨_, rfl⟩
  rw [hLv] at HX2 HD2 HP2 HG2 HB2 HK2 H ⊢
  obtain ⟨W, hW⟩ : ∃ W, w3.setCell ⟨gl, 0, none⟩ (.int .i64 Lv) = W := ⟨_, rfl⟩
  rw [hW] at HX2 HD2 HP2 HG2 HB2 HK2 ⊢
  clear hW hLv HX HD HP HG HB HK hcp hcg hfg HL HS
  refine start_ (n := 17) (S := fun w' => w'.cell? ⟨gd, 0, none⟩ = some (.int .i64 d) ∧ w'.cell? ⟨gp, 0, none⟩ = some (.pointer (some ⟨gl, 0, none⟩)) ∧ w'.cell? ⟨gl, 0, none⟩ = some (.int .i64 Lv) ∧ w'.cell? ⟨gx, 7, none⟩ = some (.slice A l.length c) ∧ w'.cell? ⟨gx, 0, none⟩ = some (.int .i64 op)) (ds := []) (bts 17 0) (by kernel_rfl) rfl rfl ⟨czc1 HD2.out, czc1 HP2.out, czc1 HG2.out, (blk_cell HX2.out 7).trans rfl, (blk_cell HX2.out 0).trans rfl⟩ (fun hHeld => ?_)
  replace HX2 := Aside0.mk (blk_drew HX2.out)
  replace HD2 := Aside0.mk (blk_drew HD2.out)
  replace HP2 := Aside0.mk (blk_drew HP2.out)
  replace HG2 := Aside0.mk (blk_drew HG2.out)
  replace HB2 := Aside0.mk (below_drew1 HB2.out)
  replace HK2 := Aside0.mk (keep_drew HK2.out)
  generalize W.drew = W1 at HX2 HD2 HP2 HG2 HB2 HK2 hHeld ⊢
  refine ta 0 (some 12) (bts 17 1) (by kernel_rfl) hHeld ?_
  by_cases hd : 64 < d
  · have f64 : decide (64 < d) = true := decide_eq_true hd
    have hA := H.out
    rw [if_pos hd] at hA
    simp only [Option.some.injEq, Prod.mk.injEq] at hA
    obtain ⟨rfl, rfl⟩ := hA
    refine pu 1 (some 13) (bts 17 3) (by kernel_rfl) ?_
    refine pu 2 (some 14) (bts 17 7) (by kernel_rfl) ?_
    refine pn 3 (some 15) (bts 17 15) (by kernel_rfl) ?_
    refine pn 4 (some 16) (bts 17 31) (by kernel_rfl) ?_
    refine pn 5 (some 17) (bts 17 63) (by kernel_rfl) ?_
    refine pn 6 (some 18) (bts 17 127) (by kernel_rfl) ?_
    refine pu 7 (some 19) (bts 17 255) (by kernel_rfl) ?_
    refine pu 8 (some 20) (bts 17 511) (by kernel_rfl) ?_
    refine pn 9 (some 21) (bts 17 1023) (by kernel_rfl) ?_
    refine pn 10 (some 22) (bts 17 2047) (by kernel_rfl) ?_
    refine pn 11 (some 23) (bts 17 4095) (by kernel_rfl) ?_
    refine pn 12 (some 24) (bts 17 8191) (by kernel_rfl) ?_
    refine pn 13 (some 25) (bts 17 16383) (by kernel_rfl) ?_
    refine pn 14 (some 26) (bts 17 32767) (by kernel_rfl) ?_
    refine pn 15 (some 27) (bts 17 65535) (by kernel_rfl) ?_
    refine pu 16 (some 28) (bts 17 131071) (by kernel_rfl) ?_
    refine done_ (by kernel_rfl) ?_
    go_wp2
    go_ret
    exact ⟨rfl, HB2.out, HG2.out, HK2.out⟩
  have f64 : decide (64 < d) = false := decide_eq_false hd
  replace H := Aside0.mk (show _ from by have hA := H.out; rw [if_neg hd] at hA; exact hA)
  refine pu 1 (some 13) (bts 17 3) (by kernel_rfl) ?_
  refine pu 2 (some 14) (bts 17 7) (by kernel_rfl) ?_
  refine ta 3 (some 15) (bts 17 15) (by kernel_rfl) hHeld ?_
  refine pu 4 (some 16) (bts 17 31) (by kernel_rfl) ?_
  refine ta 5 (some 17) (bts 17 63) (by kernel_rfl) hHeld ?_
  by_cases hn : Lv < 0
  · have fn : decide (Lv < 0) = true := decide_eq_true hn
    have hA := H.out
    rw [if_pos hn] at hA
    simp only [Option.some.injEq, Prod.mk.injEq] at hA
    obtain ⟨rfl, rfl⟩ := hA
    refine pu 6 (some 18) (bts 17 127) (by kernel_rfl) ?_
    refine pu 7 (some 19) (bts 17 255) (by kernel_rfl) ?_
    refine pu 8 (some 20) (bts 17 511) (by kernel_rfl) ?_
    refine pn 9 (some 21) (bts 17 1023) (by kernel_rfl) ?_
    refine pn 10 (some 22) (bts 17 2047) (by kernel_rfl) ?_
    refine pn 11 (some 23) (bts 17 4095) (by kernel_rfl) ?_
    refine pn 12 (some 24) (bts 17 8191) (by kernel_rfl) ?_
    refine pn 13 (some 25) (bts 17 16383) (by kernel_rfl) ?_
    refine pn 14 (some 26) (bts 17 32767) (by kernel_rfl) ?_
    refine pn 15 (some 27) (bts 17 65535) (by kernel_rfl) ?_
    refine pu 16 (some 28) (bts 17 131071) (by kernel_rfl) ?_
    refine done_ (by kernel_rfl) ?_
    go_wp2
    go_ret
    exact ⟨rfl, HB2.out, HG2.out, HK2.out⟩
  have fn : decide (Lv < 0) = false := decide_eq_false hn
  replace H := Aside0.mk (show _ from by have hA := H.out; rw [if_neg hn] at hA; exact hA)
  refine pu 6 (some 18) (bts 17 127) (by kernel_rfl) ?_
  refine pu 7 (some 19) (bts 17 255) (by kernel_rfl) ?_
  refine pu 8 (some 20) (bts 17 511) (by kernel_rfl) ?_
  refine pu 9 (some 21) (bts 17 1023) (by kernel_rfl) ?_
  refine ta 10 (some 22) (bts 17 2047) (by kernel_rfl) hHeld ?_
  refine pu 11 (some 23) (bts 17 4095) (by kernel_rfl) ?_
  refine pu 12 (some 24) (bts 17 8191) (by kernel_rfl) ?_
  refine ta 13 (some 25) (bts 17 16383) (by kernel_rfl) hHeld ?_
  have hA := H.out
  replace hA := Option.bind_eq_some_iff.mp hA
  obtain ⟨n, hkn, hA⟩ := hA
  have cN := expr_kids.calls k op n W1 hkn
  replace H := Aside0.mk hA
  clear hA
  refine one_ (i := 14) (N := some 26) (bts 17 32767) rfl rfl (by kernel_rfl) (by decide) (fun K hK => ?_)
  refine goes_ Tryz.func111 (by kernel_rfl) rfl #[.int .i64 op] (by rfl) rfl rfl lz ?_
  refine cN.mono ?_
  rintro e w' ⟨rfl, nd, rfl⟩
  refine ⟨_, rfl, ?_⟩
  replace HX2 := Aside0.mk (blk_drewN HX2.out nd)
  replace HD2 := Aside0.mk (blk_drewN HD2.out nd)
  replace HP2 := Aside0.mk (blk_drewN HP2.out nd)
  replace HG2 := Aside0.mk (blk_drewN HG2.out nd)
  replace HB2 := Aside0.mk (pw_below_drewN HB2.out nd)
  replace HK2 := Aside0.mk (keep_drewN HK2.out nd)
  refine hK.out _ _ ⟨hHeld.1, hHeld.2.1, hHeld.2.2.1, hHeld.2.2.2.1, hHeld.2.2.2.2⟩ (fun hHeld => ?_)
  clear hK K cN
  generalize W1.drewN nd = W2 at HX2 HD2 HP2 HG2 HB2 HK2 hHeld ⊢
  refine norm_ (a' := ?_) ?_ ?_
  rotate_left
  · show Act.put _ (some 26) _ = _
    simp only [Act.put, List.setIfInBounds_toArray, List.set_cons_zero, List.set_cons_succ, i64_w, i32_w]
    rfl
  clear hkn
  by_cases hln : (l.length : Int) = n
  rotate_left
  · have fe : ((l.length : Int) != n) = true := bne_iff_ne.mpr hln
    have hA := H.out
    rw [if_pos hln] at hA
    simp only [Option.some.injEq, Prod.mk.injEq] at hA
    obtain ⟨rfl, rfl⟩ := hA
    refine pu 15 (some 27) (bts 17 65535) (by kernel_rfl) ?_
    refine pu 16 (some 28) (bts 17 131071) (by kernel_rfl) ?_
    refine done_ (by kernel_rfl) ?_
    go_wp2
    go_ret
    exact ⟨rfl, HB2.out, HG2.out, HK2.out⟩
  have fe : ((l.length : Int) != n) = false := bne_eq_false_iff_eq.mpr hln
  replace H := Aside0.mk (show _ from by have hA := H.out; rw [if_neg (not_not_intro hln)] at hA; exact hA)
  refine pu 15 (some 27) (bts 17 65535) (by kernel_rfl) ?_
  refine pu 16 (some 28) (bts 17 131071) (by kernel_rfl) ?_
  refine done_ (by kernel_rfl) ?_
  clear fe hln hHeld f64 fn hd hn
  obtain ⟨x0, x1, x2, x3, x4, x5, x6, x7, z0, z1, z2, z3, z4, z5, z6, z7⟩ := cz8 HX2.out
  have y0 := czc1 HD2.out
  have y1 := czc1 HP2.out
  have hA := H.out
  replace hA := Option.bind_eq_some_iff.mp hA
  obtain ⟨bad, hbp, hA⟩ := hA
  replace H := Aside0.mk hA
  clear hA
  unfold badPart at hbp
  simp only at hbp
  have hnz : nm.toList.isEmpty = (nm.toList == []) := isEmpty_beq _
  cases e2 : (op == 2) <;> cases en : (nm.toList == ([] : List UInt8))
  ·
    have e3 : (nm.toList != ([] : List UInt8)) = true := by simp only [bne, en]; rfl
    rw [e2, e3] at hbp
    simp only [Bool.false_bne, if_true] at hbp
    obtain rfl := Option.some.inj hbp
    have hA := H.out
    simp only [if_true, Option.some.injEq, Prod.mk.injEq] at hA
    obtain ⟨rfl, rfl⟩ := hA
    rw [en] at hnz
    go_wp2
    go_ret
    exact ⟨rfl, HB2.out, HG2.out, HK2.out⟩
  ·
    have e3 : (nm.toList != ([] : List UInt8)) = false := by simp only [bne, en]; rfl
    rw [e2, e3] at hbp
    rw [en] at hnz
    have ho2 : ¬ op = 2 := beq_eq_false_iff_ne.mp e2
    simp only [bne_self_eq_false, Bool.false_eq_true, if_false, ho2, Option.bind_some] at hbp
    by_cases ho1 : op = 1
    · subst ho1
      simp only [ne_eq, not_true_eq_false, false_and, if_false] at hbp
      obtain ⟨okv, hv, hbp⟩ := Option.bind_eq_some_iff.mp hbp
      have f1 : ((1 : Int) == 2) = false := rfl
      cases okv with
      | false =>
        simp only [Bool.not_false, Bool.true_or, Option.some.injEq] at hbp
        subst hbp
        have hA := H.out
        simp only [if_true, Option.some.injEq, Prod.mk.injEq] at hA
        obtain ⟨rfl, rfl⟩ := hA
        go_wp2_with (first | (go_at_call 38; refine (value_Sound.calls k vk vn vs vt vx _ _ (tabs_of HT.out HB2.out) hv).mono ?_; rintro e w5 ⟨rfl, hb⟩; replace HX2 := Aside0.mk (blk_below HX2.out hb); replace HD2 := Aside0.mk (blk_below HD2.out hb); replace HP2 := Aside0.mk (blk_below HP2.out hb); replace HG2 := Aside0.mk (blk_below HG2.out hb); replace HB2 := Aside0.mk (HB2.out.trans (hb.mono HB2.out.size)); replace HK2 := Aside0.mk (KeepBut.trans HK2.out (KeepBut.of_below hb gl none) (.inl rfl)); obtain ⟨x0, x1, x2, x3, x4, x5, x6, x7, z0, z1, z2, z3, z4, z5, z6, z7⟩ := cz8 HX2.out; have y0 := czc1 HD2.out; have y1 := czc1 HP2.out; clear hb))
        go_ret
        exact ⟨rfl, HB2.out, HG2.out, HK2.out⟩
      | true =>
        simp only [Bool.not_true, Bool.false_or, Option.some.injEq] at hbp
        by_cases hvn : vn < 0
        · have fv : decide (vn < 0) = true := decide_eq_true hvn
          rw [fv] at hbp
          subst hbp
          have hA := H.out
          simp only [if_true, Option.some.injEq, Prod.mk.injEq] at hA
          obtain ⟨rfl, rfl⟩ := hA
          go_wp2_with (first | (go_at_call 38; refine (value_Sound.calls k vk vn vs vt vx _ _ (tabs_of HT.out HB2.out) hv).mono ?_; rintro e w5 ⟨rfl, hb⟩; replace HX2 := Aside0.mk (blk_below HX2.out hb); replace HD2 := Aside0.mk (blk_below HD2.out hb); replace HP2 := Aside0.mk (blk_below HP2.out hb); replace HG2 := Aside0.mk (blk_below HG2.out hb); replace HB2 := Aside0.mk (HB2.out.trans (hb.mono HB2.out.size)); replace HK2 := Aside0.mk (KeepBut.trans HK2.out (KeepBut.of_below hb gl none) (.inl rfl)); obtain ⟨x0, x1, x2, x3, x4, x5, x6, x7, z0, z1, z2, z3, z4, z5, z6, z7⟩ := cz8 HX2.out; have y0 := czc1 HD2.out; have y1 := czc1 HP2.out; clear hb))
          go_ret
          exact ⟨rfl, HB2.out, HG2.out, HK2.out⟩
        · have fv : decide (vn < 0) = false := decide_eq_false hvn
          rw [fv] at hbp
          subst hbp
          have hA := H.out
          simp only [Bool.false_eq_true, if_false] at hA
          have hbig : l.length < 4611686018427387904 := by
            split at hA
            · assumption
            · cases hA
          rw [if_pos hbig] at hA
          have hall := hA
          clear hA
          go_wp2_with (first | (go_at_call 38; refine (value_Sound.calls k vk vn vs vt vx _ _ (tabs_of HT.out HB2.out) hv).mono ?_; rintro e w5 ⟨rfl, hb⟩; replace HX2 := Aside0.mk (blk_below HX2.out hb); replace HD2 := Aside0.mk (blk_below HD2.out hb); replace HP2 := Aside0.mk (blk_below HP2.out hb); replace HG2 := Aside0.mk (blk_below HG2.out hb); replace HB2 := Aside0.mk (HB2.out.trans (hb.mono HB2.out.size)); replace HK2 := Aside0.mk (KeepBut.trans HK2.out (KeepBut.of_below hb gl none) (.inl rfl)); obtain ⟨x0, x1, x2, x3, x4, x5, x6, x7, z0, z1, z2, z3, z4, z5, z6, z7⟩ := cz8 HX2.out; have y0 := czc1 HD2.out; have y1 := czc1 HP2.out; clear hb) | (go_at_call 113; refine (has31 ih l A c d Lv gl gd gp b L w0 _ HC.out HT.out HB2.out HG2.out HE.out HD2.out HP2.out hdg hpg hbig hall).mono ?_; rintro e w6 ⟨rfl, hb, hg, hk⟩))
          go_ret
          exact ⟨rfl, hb, hg, KeepBut.trans HK2.out hk (.inl rfl)⟩
    · have fo : (op == 1) = false := beq_eq_false_iff_ne.mpr ho1
      have fo' : (op != 1) = true := bne_iff_ne.mpr ho1
      have fo2 : (op != 2) = true := bne_iff_ne.mpr ho2
      by_cases hz : vk = 0 ∧ vn = 0 ∧ vs = 0 ∧ vt = (⟨#[]⟩ : ByteArray) ∧ vx = 0
      · rw [if_neg (fun q => q.2 hz)] at hbp
        obtain ⟨rfl, rfl, rfl, rfl, rfl⟩ := hz
        obtain ⟨okv, hv, hbp⟩ := Option.bind_eq_some_iff.mp hbp
        cases okv with
        | false =>
          simp only [Bool.not_false, Bool.true_or, Option.some.injEq] at hbp
          subst hbp
          have hA := H.out
          simp only [if_true, Option.some.injEq, Prod.mk.injEq] at hA
          obtain ⟨rfl, rfl⟩ := hA
          go_wp2_with (first | (go_at_call 38; refine (value_Sound.calls k 0 0 0 (⟨#[]⟩ : ByteArray) 0 _ _ (tabs_of HT.out HB2.out) hv).mono ?_; rintro e w5 ⟨rfl, hb⟩; replace HX2 := Aside0.mk (blk_below HX2.out hb); replace HD2 := Aside0.mk (blk_below HD2.out hb); replace HP2 := Aside0.mk (blk_below HP2.out hb); replace HG2 := Aside0.mk (blk_below HG2.out hb); replace HB2 := Aside0.mk (HB2.out.trans (hb.mono HB2.out.size)); replace HK2 := Aside0.mk (KeepBut.trans HK2.out (KeepBut.of_below hb gl none) (.inl rfl)); obtain ⟨x0, x1, x2, x3, x4, x5, x6, x7, z0, z1, z2, z3, z4, z5, z6, z7⟩ := cz8 HX2.out; have y0 := czc1 HD2.out; have y1 := czc1 HP2.out; clear hb))
          go_ret
          exact ⟨rfl, HB2.out, HG2.out, HK2.out⟩
        | true =>
          simp only [Bool.not_true, Bool.false_or, Option.some.injEq] at hbp
          replace hbp : false = bad := (show decide ((0 : Int) < 0) = false from rfl).symm.trans hbp
          subst hbp
          have hA := H.out
          simp only [Bool.false_eq_true, if_false] at hA
          have hbig : l.length < 4611686018427387904 := by
            split at hA
            · assumption
            · cases hA
          rw [if_pos hbig] at hA
          have hall := hA
          clear hA
          go_wp2_with (first | (go_at_call 38; refine (value_Sound.calls k 0 0 0 (⟨#[]⟩ : ByteArray) 0 _ _ (tabs_of HT.out HB2.out) hv).mono ?_; rintro e w5 ⟨rfl, hb⟩; replace HX2 := Aside0.mk (blk_below HX2.out hb); replace HD2 := Aside0.mk (blk_below HD2.out hb); replace HP2 := Aside0.mk (blk_below HP2.out hb); replace HG2 := Aside0.mk (blk_below HG2.out hb); replace HB2 := Aside0.mk (HB2.out.trans (hb.mono HB2.out.size)); replace HK2 := Aside0.mk (KeepBut.trans HK2.out (KeepBut.of_below hb gl none) (.inl rfl)); obtain ⟨x0, x1, x2, x3, x4, x5, x6, x7, z0, z1, z2, z3, z4, z5, z6, z7⟩ := cz8 HX2.out; have y0 := czc1 HD2.out; have y1 := czc1 HP2.out; clear hb) | (go_at_call 113; refine (has31 ih l A c d Lv gl gd gp b L w0 _ HC.out HT.out HB2.out HG2.out HE.out HD2.out HP2.out hdg hpg hbig hall).mono ?_; rintro e w6 ⟨rfl, hb, hg, hk⟩))
          go_ret
          exact ⟨rfl, hb, hg, KeepBut.trans HK2.out hk (.inl rfl)⟩
      · rw [if_pos ⟨ho1, hz⟩] at hbp
        obtain rfl := Option.some.inj hbp
        have hA := H.out
        simp only [if_true, Option.some.injEq, Prod.mk.injEq] at hA
        obtain ⟨rfl, rfl⟩ := hA
        have hb5 : (vk == 0 && ((vn == 0 && (vs == 0)) && (vt.toList == ([] : List UInt8) && (vx == 0)))) = false := nz_false hz
        have hb6 : (vk == 0 && ((vn == 0 && (vs == 0)) && (vt.toList.isEmpty && (vx == 0)))) = false := by rw [isEmpty_beq]; exact hb5
        go_wp2
        go_ret
        exact ⟨rfl, HB2.out, HG2.out, HK2.out⟩
  ·
    have e3 : (nm.toList != ([] : List UInt8)) = true := by simp only [bne, en]; rfl
    rw [e2, e3] at hbp
    rw [en] at hnz
    have ho2 : op = 2 := beq_iff_eq.mp e2
    subst ho2
    simp only [bne_self_eq_false, Bool.false_eq_true, if_false, if_true] at hbp
    obtain ⟨b1, hw0, hbp⟩ := Option.bind_eq_some_iff.mp hbp
    obtain ⟨okw, hw, e1⟩ := Option.bind_eq_some_iff.mp hw0
    have e1 := Option.some.inj e1
    subst e1
    clear hw0
    cases okw with
    | false =>
      simp only [Bool.not_false, if_true] at hbp
      obtain rfl := Option.some.inj hbp
      have hA := H.out
      simp only [if_true, Option.some.injEq, Prod.mk.injEq] at hA
      obtain ⟨rfl, rfl⟩ := hA
      go_wp2_with (first | (go_at_call 112; refine (lex_Word.calls k nm _ _ hw).mono ?_; rintro e w5 ⟨rfl, hb⟩; replace HX2 := Aside0.mk (blk_below HX2.out hb); replace HD2 := Aside0.mk (blk_below HD2.out hb); replace HP2 := Aside0.mk (blk_below HP2.out hb); replace HG2 := Aside0.mk (blk_below HG2.out hb); replace HB2 := Aside0.mk (HB2.out.trans (hb.mono HB2.out.size)); replace HK2 := Aside0.mk (KeepBut.trans HK2.out (KeepBut.of_below hb gl none) (.inl rfl)); obtain ⟨x0, x1, x2, x3, x4, x5, x6, x7, z0, z1, z2, z3, z4, z5, z6, z7⟩ := cz8 HX2.out; have y0 := czc1 HD2.out; have y1 := czc1 HP2.out; clear hb))
      go_ret
      exact ⟨rfl, HB2.out, HG2.out, HK2.out⟩
    | true =>
      simp only [Bool.not_true, Bool.false_eq_true, if_false] at hbp
      by_cases hz : vk = 0 ∧ vn = 0 ∧ vs = 0 ∧ vt = (⟨#[]⟩ : ByteArray) ∧ vx = 0
      · rw [if_neg (fun q => q.2 hz)] at hbp
        obtain ⟨rfl, rfl, rfl, rfl, rfl⟩ := hz
        obtain ⟨okv, hv, hbp⟩ := Option.bind_eq_some_iff.mp hbp
        cases okv with
        | false =>
          simp only [Bool.not_false, Bool.true_or, Option.some.injEq] at hbp
          subst hbp
          have hA := H.out
          simp only [if_true, Option.some.injEq, Prod.mk.injEq] at hA
          obtain ⟨rfl, rfl⟩ := hA
          go_wp2_with (first | (go_at_call 112; refine (lex_Word.calls k nm _ _ hw).mono ?_; rintro e w5 ⟨rfl, hb⟩; replace HX2 := Aside0.mk (blk_below HX2.out hb); replace HD2 := Aside0.mk (blk_below HD2.out hb); replace HP2 := Aside0.mk (blk_below HP2.out hb); replace HG2 := Aside0.mk (blk_below HG2.out hb); replace HB2 := Aside0.mk (HB2.out.trans (hb.mono HB2.out.size)); replace HK2 := Aside0.mk (KeepBut.trans HK2.out (KeepBut.of_below hb gl none) (.inl rfl)); obtain ⟨x0, x1, x2, x3, x4, x5, x6, x7, z0, z1, z2, z3, z4, z5, z6, z7⟩ := cz8 HX2.out; have y0 := czc1 HD2.out; have y1 := czc1 HP2.out; clear hb) | (go_at_call 38; refine (value_Sound.calls k 0 0 0 (⟨#[]⟩ : ByteArray) 0 _ _ (tabs_of HT.out HB2.out) hv).mono ?_; rintro e w5 ⟨rfl, hb⟩; replace HX2 := Aside0.mk (blk_below HX2.out hb); replace HD2 := Aside0.mk (blk_below HD2.out hb); replace HP2 := Aside0.mk (blk_below HP2.out hb); replace HG2 := Aside0.mk (blk_below HG2.out hb); replace HB2 := Aside0.mk (HB2.out.trans (hb.mono HB2.out.size)); replace HK2 := Aside0.mk (KeepBut.trans HK2.out (KeepBut.of_below hb gl none) (.inl rfl)); obtain ⟨x0, x1, x2, x3, x4, x5, x6, x7, z0, z1, z2, z3, z4, z5, z6, z7⟩ := cz8 HX2.out; have y0 := czc1 HD2.out; have y1 := czc1 HP2.out; clear hb))
          go_ret
          exact ⟨rfl, HB2.out, HG2.out, HK2.out⟩
        | true =>
          simp only [Bool.not_true, Bool.false_or, Option.some.injEq] at hbp
          replace hbp : false = bad := (show decide ((0 : Int) < 0) = false from rfl).symm.trans hbp
          subst hbp
          have hA := H.out
          simp only [Bool.false_eq_true, if_false] at hA
          have hbig : l.length < 4611686018427387904 := by
            split at hA
            · assumption
            · cases hA
          rw [if_pos hbig] at hA
          have hall := hA
          clear hA
          go_wp2_with (first | (go_at_call 112; refine (lex_Word.calls k nm _ _ hw).mono ?_; rintro e w5 ⟨rfl, hb⟩; replace HX2 := Aside0.mk (blk_below HX2.out hb); replace HD2 := Aside0.mk (blk_below HD2.out hb); replace HP2 := Aside0.mk (blk_below HP2.out hb); replace HG2 := Aside0.mk (blk_below HG2.out hb); replace HB2 := Aside0.mk (HB2.out.trans (hb.mono HB2.out.size)); replace HK2 := Aside0.mk (KeepBut.trans HK2.out (KeepBut.of_below hb gl none) (.inl rfl)); obtain ⟨x0, x1, x2, x3, x4, x5, x6, x7, z0, z1, z2, z3, z4, z5, z6, z7⟩ := cz8 HX2.out; have y0 := czc1 HD2.out; have y1 := czc1 HP2.out; clear hb) | (go_at_call 38; refine (value_Sound.calls k 0 0 0 (⟨#[]⟩ : ByteArray) 0 _ _ (tabs_of HT.out HB2.out) hv).mono ?_; rintro e w5 ⟨rfl, hb⟩; replace HX2 := Aside0.mk (blk_below HX2.out hb); replace HD2 := Aside0.mk (blk_below HD2.out hb); replace HP2 := Aside0.mk (blk_below HP2.out hb); replace HG2 := Aside0.mk (blk_below HG2.out hb); replace HB2 := Aside0.mk (HB2.out.trans (hb.mono HB2.out.size)); replace HK2 := Aside0.mk (KeepBut.trans HK2.out (KeepBut.of_below hb gl none) (.inl rfl)); obtain ⟨x0, x1, x2, x3, x4, x5, x6, x7, z0, z1, z2, z3, z4, z5, z6, z7⟩ := cz8 HX2.out; have y0 := czc1 HD2.out; have y1 := czc1 HP2.out; clear hb) | (go_at_call 113; refine (has31 ih l A c d Lv gl gd gp b L w0 _ HC.out HT.out HB2.out HG2.out HE.out HD2.out HP2.out hdg hpg hbig hall).mono ?_; rintro e w6 ⟨rfl, hb, hg, hk⟩))
          go_ret
          exact ⟨rfl, hb, hg, KeepBut.trans HK2.out hk (.inl rfl)⟩
      · rw [if_pos ⟨by decide, hz⟩] at hbp
        obtain rfl := Option.some.inj hbp
        have hA := H.out
        simp only [if_true, Option.some.injEq, Prod.mk.injEq] at hA
        obtain ⟨rfl, rfl⟩ := hA
        have hb5 : (vk == 0 && ((vn == 0 && (vs == 0)) && (vt.toList == ([] : List UInt8) && (vx == 0)))) = false := nz_false hz
        have hb6 : (vk == 0 && ((vn == 0 && (vs == 0)) && (vt.toList.isEmpty && (vx == 0)))) = false := by rw [isEmpty_beq]; exact hb5
        go_wp2_with (first | (go_at_call 112; refine (lex_Word.calls k nm _ _ hw).mono ?_; rintro e w5 ⟨rfl, hb⟩; replace HX2 := Aside0.mk (blk_below HX2.out hb); replace HD2 := Aside0.mk (blk_below HD2.out hb); replace HP2 := Aside0.mk (blk_below HP2.out hb); replace HG2 := Aside0.mk (blk_below HG2.out hb); replace HB2 := Aside0.mk (HB2.out.trans (hb.mono HB2.out.size)); replace HK2 := Aside0.mk (KeepBut.trans HK2.out (KeepBut.of_below hb gl none) (.inl rfl)); obtain ⟨x0, x1, x2, x3, x4, x5, x6, x7, z0, z1, z2, z3, z4, z5, z6, z7⟩ := cz8 HX2.out; have y0 := czc1 HD2.out; have y1 := czc1 HP2.out; clear hb))
        go_ret
        exact ⟨rfl, HB2.out, HG2.out, HK2.out⟩
  ·
    have e3 : (nm.toList != ([] : List UInt8)) = false := by simp only [bne, en]; rfl
    rw [e2, e3] at hbp
    simp only [Bool.bne_false, if_true] at hbp
    obtain rfl := Option.some.inj hbp
    have hA := H.out
    simp only [if_true, Option.some.injEq, Prod.mk.injEq] at hA
    obtain ⟨rfl, rfl⟩ := hA
    rw [en] at hnz
    go_wp2
    go_ret
    exact ⟨rfl, HB2.out, HG2.out, HK2.out⟩
theorem sound_zero : SoundAt 0 := fun x A c d left gl b L w0 w _ _ _ _ _ _ h => by cases h
theorem sound_all : ∀ k, SoundAt k
  | 0 => sound_zero
  | k + 1 => sound_step (sound_all k)
set_option maxHeartbeats 4000000 in
set_option maxRecDepth 100000 in
theorem expr_Sound.calls (k : Nat) (a0_0 a0_1 a0_2 a0_3 : Int) (a0_4 : ByteArray) (a0_5 : Int) (a0_6 : ByteArray) (A0_7 : Option Addr) (c0_7 : Nat) (l0_7 : List S31) (r : Bool) (w : World) (hr0_7 : Kd.C k31 w A0_7 l0_7.length l0_7) (hc0_7 : l0_7.length ≤ c0_7) (hT : Tabs w)
    (h : expr_Sound.f k a0_0 a0_1 a0_2 a0_3 a0_4 a0_5 a0_6 l0_7 = some r) :
    Calls Tryz.prog 35 #[.agg #[.int .i64 a0_0, .int .i64 a0_1, .int .i64 a0_2, .int .i64 a0_3, .string a0_4, .int .i64 a0_5, .string a0_6, .slice A0_7 l0_7.length c0_7]] w fun e w' => e = .returned (.bool r) ∧ Below w.heap.size w w' := by
  obtain ⟨⟨b, L⟩, hs, h⟩ := Option.bind_eq_some_iff.mp h
  obtain rfl := Option.some.inj h
  have hu31 := Tryz.underlying31
  go_enter Tryz.func35, Tryz.ntmps35
  go_wp2_with (first
    | ((with_reducible refine gate_dst (N := 1) rfl ?_); refine bev (cells31 ⟨a0_0, ⟨a0_1, ⟨a0_2, a0_3⟩, a0_4, a0_5⟩, a0_6, l0_7⟩ A0_7 c0_7) 31 ?_; intro gx hgx w1 hbox hb1
       have HX := Aside0.mk hbox; have HB1 := Aside0.mk hb1; clear hgx hbox hb1)
    | ((with_reducible refine gate_dst (N := 3) rfl ?_); refine bev (#[.int .i64 0]) 3 ?_; intro gl hgl w2 hbox hb2
       have HG := Aside0.mk hbox; have hlx := nlt hgl (blk_lt HX.out); have HGE := Aside0.mk (show w.heap.size ≤ gl from by rw [hgl]; exact HB1.out.size); replace HX := Aside0.mk (blk_below HX.out hb2); have HB2 := Aside0.mk (HB1.out.trans (hb2.mono HB1.out.size))
       obtain ⟨q0, q1⟩ := cz1 HG.out; obtain ⟨x0, x1, x2, x3, x4, x5, x6, x7, _⟩ := cz8 HX.out; have hxl := hlx.symm; clear hgl hbox hb2)
    | (go_at_call 68; refine (sound_all k ⟨a0_0, ⟨a0_1, ⟨a0_2, a0_3⟩, a0_4, a0_5⟩, a0_6, l0_7⟩ A0_7 c0_7 1 4096 gl b L w _ hr0_7 hc0_7 hT (HB2.out.setCell (p := ⟨gl, 0, none⟩) HGE.out (.int .i64 4096)) (blk_put (cs := #[.int .i64 0]) (cs' := #[.int .i64 4096]) HG.out 0 (.int .i64 4096) rfl) HGE.out hs).mono ?_; rintro e w3 ⟨rfl, hb, hg, hk⟩))
  go_ret
  exact ⟨rfl, hb⟩
end Go.Proofs.YtgkemhgihbfmmaaGreatDoor.PA
end
section
namespace Go.Proofs.YtgkemhgihbfmmaaGreatDoor.PA
open Go.RowKit Go.Proofs.YtgkemhgihbfmmaaGreatDoorW.PrintWords Go.Proofs.YtgkemhgihbfmmaaGreatDoorW.PrintLast Go.Proofs.YtgkemhgihbfmmaaGreatDoorW.PrintMore
attribute [local go_sem] max2_int min2_int max_two min_two max_three min_three max_four min_four isSome_set str_gtr
set_option linter.unusedVariables false
set_option linter.unusedSimpArgs false
def expr_Parse.j0 : Nat → Bool → List (S136) → Int → Int → Int → Int → Int → Int → Int → Int → Int → ByteArray → Int → ByteArray → List (S31) → Option (Int × Int × Int × Int × ByteArray × Int × ByteArray × (List (S31)) × Int × Int)
 | 0, _, _, _, _, _, _, _, _, _, _, _, _, _, _, _ => none
 | k + 1, x22, x809000, x809001, x809002, x809003, x809004, x809005, x825000, x825001, x825002, x825003, x825004, x825005, x825006, x825007 => if x22 = true then (none) else ((expr_Parser_Error.f x809000 x809001 x809002 x809003 x809004 x809005).bind fun bt831 => (if bt831.2.1 = 0 then ((expr_Sound.f k x825000 x825001 x825002 x825003 x825004 x825005 x825006 x825007).bind fun t838 => (if t838 = true then (some (x825000, x825001, x825002, x825003, x825004, x825005, x825006, x825007, 0, 0)) else (none))) else (none)))
def expr_Parse.f (k : Nat) (a0 : ByteArray) : Option (Int × Int × Int × Int × ByteArray × Int × ByteArray × (List (S31)) × Int × Int) := (expr_NewParser.f k a0).bind fun bt802 => ((expr_Parser_Expr.f k bt802.1 bt802.2.1 bt802.2.2.1 bt802.2.2.2.1 bt802.2.2.2.2.1 bt802.2.2.2.2.2 1).bind fun bt809 => (if bt809.2.2.2.2.2.2.2.2.2.2.2.1 = 0 then ((expr_Parser_Ended.f bt802.1 bt809.2.2.2.2.2.2.2.2.1 bt809.2.2.2.2.2.2.2.2.2.1 bt809.2.2.2.2.2.2.2.2.2.2.1 bt809.2.2.2.2.2.2.2.2.2.2.2.1 bt809.2.2.2.2.2.2.2.2.2.2.2.2).bind fun bt825 => (expr_Parse.j0 k (!bt825.1) bt802.1 bt825.2.1 bt825.2.2.1 bt825.2.2.2.1 bt825.2.2.2.2.1 bt825.2.2.2.2.2 bt809.1 bt809.2.1 bt809.2.2.1 bt809.2.2.2.1 bt809.2.2.2.2.1 bt809.2.2.2.2.2.1 bt809.2.2.2.2.2.2.1 bt809.2.2.2.2.2.2.2.1)) else (expr_Parse.j0 k false bt802.1 bt809.2.2.2.2.2.2.2.2.1 bt809.2.2.2.2.2.2.2.2.2.1 bt809.2.2.2.2.2.2.2.2.2.2.1 bt809.2.2.2.2.2.2.2.2.2.2.2.1 bt809.2.2.2.2.2.2.2.2.2.2.2.2 bt809.1 bt809.2.1 bt809.2.2.1 bt809.2.2.2.1 bt809.2.2.2.2.1 bt809.2.2.2.2.2.1 bt809.2.2.2.2.2.2.1 bt809.2.2.2.2.2.2.2.1)))
theorem expr_Parse.mono_l : ∀ k, (∀ y0 y1 y2 y3 y4 y5 y6 y7 y8 y9 y10 y11 y12 y13 y14, LeO (expr_Parse.j0 k y0 y1 y2 y3 y4 y5 y6 y7 y8 y9 y10 y11 y12 y13 y14) (expr_Parse.j0 (k + 1) y0 y1 y2 y3 y4 y5 y6 y7 y8 y9 y10 y11 y12 y13 y14))
 | 0 => fun _ _ _ _ _ _ _ _ _ _ _ _ _ _ _ r h => by simp [expr_Parse.j0] at h
 | k + 1 => by
  have ih0 := expr_Parse.mono_l k
  ·intro y0 y1 y2 y3 y4 y5 y6 y7 y8 y9 y10 y11 y12 y13 y14
   unfold expr_Parse.j0
   have q0 := @expr_NewParser.mono; have q1 := @expr_Parser_Expr.mono; have q2 := @expr_Sound.mono; exact lmo
theorem expr_Parse.mono : ∀ a0 k, LeO (expr_Parse.f k a0) (expr_Parse.f (k + 1) a0) := by
 intro a0 k
 have ih0 := expr_Parse.mono_l k
 unfold expr_Parse.f
 have q0 := @expr_NewParser.mono; have q1 := @expr_Parser_Expr.mono; have q2 := @expr_Sound.mono; exact lmo
set_option maxHeartbeats 8000000 in
set_option maxRecDepth 100000 in
theorem expr_Parse.calls (k : Nat) (a0 : ByteArray) (r1 r2 r3 r4 : Int) (r5 : ByteArray) (r6 : Int) (r7 : ByteArray) (r8 : List (S31)) (r9 r10 : Int) (wO : World) (hT : Tabs wO) (h : expr_Parse.f k a0 = some (r1, r2, r3, r4, r5, r6, r7, r8, r9, r10)) :
  Calls Tryz.prog 12 #[.string a0] wO fun e w' => ∃ v7_ : Value, e = .returned (.tuple #[.agg #[.int .i64 r1, .int .i64 r2, .int .i64 r3, .int .i64 r4, .string r5, .int .i64 r6, .string r7, v7_], .int .i64 r9, .int .i64 r10]) ∧ Kd.V k31 31 w' wO.heap.size (fun k_ => (wO.heap.size ≤ k_)) v7_ r8 ∧ Below wO.heap.size wO w' := by
 have hu31 := Tryz.underlying31
 have HT := am hT
 clear hT
 have HB := am (Below.refl wO.heap.size wO)
 have H : ((expr_NewParser.f k a0).bind fun bt802 => ((expr_Parser_Expr.f k bt802.1 bt802.2.1 bt802.2.2.1 bt802.2.2.2.1 bt802.2.2.2.2.1 bt802.2.2.2.2.2 1).bind fun bt809 => (if bt809.2.2.2.2.2.2.2.2.2.2.2.1 = 0 then ((expr_Parser_Ended.f bt802.1 bt809.2.2.2.2.2.2.2.2.1 bt809.2.2.2.2.2.2.2.2.2.1 bt809.2.2.2.2.2.2.2.2.2.2.1 bt809.2.2.2.2.2.2.2.2.2.2.2.1 bt809.2.2.2.2.2.2.2.2.2.2.2.2).bind fun bt825 => (expr_Parse.j0 k (!bt825.1) bt802.1 bt825.2.1 bt825.2.2.1 bt825.2.2.2.1 bt825.2.2.2.2.1 bt825.2.2.2.2.2 bt809.1 bt809.2.1 bt809.2.2.1 bt809.2.2.2.1 bt809.2.2.2.2.1 bt809.2.2.2.2.2.1 bt809.2.2.2.2.2.2.1 bt809.2.2.2.2.2.2.2.1)) else (expr_Parse.j0 k false bt802.1 bt809.2.2.2.2.2.2.2.2.1 bt809.2.2.2.2.2.2.2.2.2.1 bt809.2.2.2.2.2.2.2.2.2.2.1 bt809.2.2.2.2.2.2.2.2.2.2.2.1 bt809.2.2.2.2.2.2.2.2.2.2.2.2 bt809.1 bt809.2.1 bt809.2.2.1 bt809.2.2.2.1 bt809.2.2.2.2.1 bt809.2.2.2.2.2.1 bt809.2.2.2.2.2.2.1 bt809.2.2.2.2.2.2.2.1)))) = some (r1, r2, r3, r4, r5, r6, r7, r8, r9, r10) := h
 clear h
 replace H := obe6 H
 obtain ⟨t802, t803, t804, t805, t806, t807, A2, H⟩ := H
 replace H := obe13 H
 obtain ⟨t809, t810, t811, t812, t813, t814, t815, t816, t819, t820, t821, t822, t823, A3, H⟩ := H
 have HC4 := am H
 clear H
 go_enter Tryz.func12, Tryz.ntmps12
 go_upto_region 3 with (first | ((with_reducible refine gate_dst (N := 2) rfl ?_); refine bev (#[.int .i64 0, .int .i64 0, .int .i64 0, .int .i64 0, .string (⟨#[]⟩ : ByteArray), .int .i64 0, .string (⟨#[]⟩ : ByteArray), .slice none 0 0]) 31 ?_; intro gb801 hg w5 hbox hb; have BK801 := am (hbox); have GW801 := am ((by rw [hg]; exact (below_size (bz HB.out)) : wO.heap.size ≤ gb801)); have GE801 := GW801; replace HB := sb HB hb; clear hb hbox hg) | ((with_reducible refine gate_callee (f := 30) rfl ?_); refine gl_ (some 10) Tryz.func30 (by kernel_rfl) #[.string a0] rfl ?_; (with_reducible refine (expr_NewParser.calls k a0 t802 t803 t804 t805 t806 t807 _ ?side2 A2.out).mono ?_); (case side2 => exact tabs_of HT.out (bz HB.out)); rintro e w6 ⟨g808, w, rfl, hi, hb1, hb2⟩; refine ⟨_, rfl, ?_⟩; have HBO := am (below_step (bz HB.out) hb1); replace HB := am hb2; replace HT := am (tabs_of HT.out HBO.out); have HI808 := am hi; have HBT := am (below_then hb1 hb1.size hb2); have NB808_801 := am (IsS63.ne_blk hi (blk_below (bk BK801.out) HBT.out) (by decide)); have NB801_808 := am (Ne.symm NB808_801.out); replace BK801 := am (blk_below (bk BK801.out) HBT.out); clear HBT hb1 hb2 hi) | ((with_reducible refine gate_callee (f := 31) rfl ?_); refine gl_ (some 12) Tryz.func31 (by kernel_rfl) #[.pointer (some ⟨g808, 0, none⟩), .int .i64 1] rfl ?_; (with_reducible refine (expr_Parser_Expr.calls k g808 t802 t803 t804 t805 t806 t807 1 t809 t810 t811 t812 t813 t814 t815 t816 t819 t820 t821 t822 t823 w _ ?side1 ?side2 A3.out).mono ?_); (case side1 => exact hz HI808.out); (case side2 => exact bz HB.out); rintro e w7 ⟨v817, rfl, ho0, hi, hb, hk⟩; refine ⟨_, rfl, ?_⟩; have HO818 := am (Kd.V_lower (Kd.V_mono (ok' := fun k_ => (w.heap.size ≤ k_) ∧ k_ ≠ gb801 ∧ k_ ≠ g808) ho0 (fun k_ hk_ => ⟨(Nat.le_trans (below_size (bz HB.out)) hk_), (Kd.freshB (bk BK801.out) k_ hk_), (IsS63.fresh (hz HI808.out) k_ hk_)⟩)) (below_size (bz HB.out))); replace BK801 := am (KeepBut.blk hk (bk BK801.out) NB801_808.out (by simp)); replace HB := am (hb); replace HI808 := am (hi); clear hb hk hi ho0) | ((with_reducible refine gate_dst (N := 6) rfl ?_); refine bev (#[.int .i64 0, .int .i64 0, .int .i64 0, .int .i64 0, .string (⟨#[]⟩ : ByteArray), .int .i64 0, .string (⟨#[]⟩ : ByteArray), .slice none 0 0]) 31 ?_; intro gb824 hg w8 hbox hb; replace HO818 := am (Kd.V_below (Kd.V_elderB (vv HO818.out) gb824 (Nat.le_of_eq hg.symm)) hb); have BK824 := am (hbox); have GW824 := gs hg HB; have GE824 := GW824; replace HB := sb HB hb; have NB801_824 := na hg BK801; have NB824_801 := nb hg BK801; replace BK801 := kb BK801 hb; have NB808_824 := am ((nlt (a := g808) hg (IsS63.lt (show IsS63 w _ g808 t802 t819 t820 t821 t822 t823 from hz HI808.out)))); have NB824_808 := am ((ngt (a := g808) hg (IsS63.lt (show IsS63 w _ g808 t802 t819 t820 t821 t822 t823 from hz HI808.out)))); replace HI808 := am (IsS63.below (hz HI808.out) hb); clear hb hbox hg; have hnb9 := NB824_801.out; have hnc9 := NB801_824.out; have hnb10 := NB824_808.out; have hnc10 := NB808_824.out; obtain ⟨Z11_0, Z11_1, Z11_2, Z11_3, Z11_4, Z11_5, Z11_6, Z11_7, F11_0, F11_1, F11_2, F11_3, F11_4, F11_5, F11_6, F11_7⟩ := cz8 BK824.out; obtain ⟨Ao12, co12, eo12⟩ := Kd.V_slice HO818.out; subst eo12))
 (try simp only [Act.put, List.setIfInBounds_toArray, List.set_cons_zero, List.set_cons_succ])
 go_cut [22] (fun v22 wc => ∃ (kq : Nat) (x22_3 : Bool) (x809001_3 x809002_3 x809003_3 x809004_3 x809005_3 : Int), v22 = .bool x22_3 ∧ Aside0 (expr_Parse.j0 kq x22_3 t802 x809001_3 x809002_3 x809003_3 x809004_3 x809005_3 t809 t810 t811 t812 t813 t814 t815 t816 = some (r1, r2, r3, r4, r5, r6, r7, r8, r9, r10)) ∧ Aside0 (kq ≤ k) ∧ Aside0 (Kd.V k31 31 wc w.heap.size (fun k_ => (w.heap.size ≤ k_) ∧ k_ ≠ gb801 ∧ k_ ≠ gb824 ∧ k_ ≠ g808) (.slice Ao12 t816.length co12) t816) ∧ Aside0 (wc.heap[gb801]? = some (.cells #[.int .i64 0, .int .i64 0, .int .i64 0, .int .i64 0, .string (⟨#[]⟩ : ByteArray), .int .i64 0, .string (⟨#[]⟩ : ByteArray), (.slice none 0 0)] 31 (0, 0))) ∧ Aside0 (wc.heap[gb824]? = some (.cells #[.int .i64 t809, .int .i64 t810, .int .i64 t811, .int .i64 t812, .string t813, .int .i64 t814, .string t815, (.slice Ao12 t816.length co12)] 31 (0, 0))) ∧ Aside0 (IsS63 w wc g808 t802 x809001_3 x809002_3 x809003_3 x809004_3 x809005_3) ∧ Aside0 (Below w.heap.size w wc))
 case first =>
  have H := HC4.out
  clear HC4
  by_cases c13 : t822 = 0
  ·replace H := ipe c13 H
   obtain ⟨H, c13b0, c13b1⟩ := H
   clear c13
   (first | rw [c13b0] | (simp only [i64_w, i32_w]; rw [c13b0]) | skip)
   replace H := obe6 H
   obtain ⟨t825, t826, t827, t828, t829, t830, A14, H⟩ := H
   have H' := am H
   clear H
   obtain ⟨ASz15_0, cSz15_0, HSz15_0, Z15_0, Z15_1, Z15_2, Z15_3, Z15_4, Z15_5, F15_1, F15_2, F15_3, F15_4, F15_5⟩ := open63 HI808.out
   go_wp2_with (first | (go_at_call 32; (with_reducible refine (expr_Parser_Ended.calls g808 t802 t819 t820 t821 t822 t823 t825 t826 t827 t828 t829 t830 w _ ?side1 ?side2 A14.out).mono ?_); (case side1 => exact hz HI808.out); (case side2 => exact bz HB.out); rintro e w16 ⟨rfl, hi, hb, hk⟩; replace BK801 := am (KeepBut.blk hk (g' := gb801) (o := .cells #[.int .i64 0, .int .i64 0, .int .i64 0, .int .i64 0, .string (⟨#[]⟩ : ByteArray), .int .i64 0, .string (⟨#[]⟩ : ByteArray), .slice none 0 0] 31 (0, 0)) (bp BK801.out) NB801_808.out (by simp)); replace HO818 := am (Kd.V_mono (Kd.V_keep (Kd.V_mono (ok := fun k_ => ((((w.heap.size ≤ k_)) ∧ (k_ ≠ gb801 ∧ k_ ≠ g808)) ∧ k_ ≠ gb824)) (by (with_reducible repeat (first | apply Kd.V_alloc | apply Kd.V_drewN | apply Kd.V_drew)); exact (Kd.V_mono (Kd.V_far (p := ⟨gb824, 7, none⟩) (Kd.V_far (p := ⟨gb824, 6, none⟩) (Kd.V_far (p := ⟨gb824, 5, none⟩) (Kd.V_far (p := ⟨gb824, 4, none⟩) (Kd.V_far (p := ⟨gb824, 3, none⟩) (Kd.V_far (p := ⟨gb824, 2, none⟩) (Kd.V_far (p := ⟨gb824, 1, none⟩) (Kd.V_far (p := ⟨gb824, 0, none⟩) (Kd.V_mono HO818.out (fun k_ hk => (⟨hk, hk.2⟩ : _ ∧ k_ ≠ gb824))) (fun _ hk => hk.2) (.int .i64 t809)) (fun _ hk => hk.2) (.int .i64 t810)) (fun _ hk => hk.2) (.int .i64 t811)) (fun _ hk => hk.2) (.int .i64 t812)) (fun _ hk => hk.2) (.string t813)) (fun _ hk => hk.2) (.int .i64 t814)) (fun _ hk => hk.2) (.string t815)) (fun _ hk => hk.2) (.slice Ao12 t816.length co12)) (fun _ h_ => h_.1))) (fun k_ hk_ => (⟨hk_, hk_.1.2.2⟩ : _ ∧ k_ ≠ g808))) hk (fun _ h => h.2)) (fun _ h => h.1)); replace BK824 := am (KeepBut.blk hk (g' := gb824) (o := .cells #[.int .i64 t809, .int .i64 t810, .int .i64 t811, .int .i64 t812, .string t813, .int .i64 t814, .string t815, .slice Ao12 t816.length co12] 31 (0, 0)) (bp BK824.out) NB824_808.out (by simp)); replace HB := am (hb); replace HI808 := am (hi); clear hb hk hi))
   go_meet
   case rel => exact ⟨_, (!t825), (t826), (t827), (t828), (t829), (t830), sz, H', ⟨oz⟩, ⟨by (with_reducible repeat (first | apply Kd.V_alloc | apply Kd.V_drewN | apply Kd.V_drew)); exact Kd.V_mono HO818.out (fun _ hk => ⟨hk.1.1, ⟨hk.1.2.1, ⟨hk.2, hk.1.2.2⟩⟩⟩)⟩, ⟨bk BK801.out⟩, ⟨bk BK824.out⟩, ⟨hz HI808.out⟩, ⟨bz HB.out⟩⟩
  replace H := ine c13 H
  obtain ⟨H, c13b0, c13b1⟩ := H
  (first | rw [c13b0] | (simp only [i64_w, i32_w]; rw [c13b0]) | skip)
  have H' := am H
  clear H
  obtain ⟨ASz17_0, cSz17_0, HSz17_0, Z17_0, Z17_1, Z17_2, Z17_3, Z17_4, Z17_5, F17_1, F17_2, F17_3, F17_4, F17_5⟩ := open63 HI808.out
  go_wp2
  go_meet
  case rel => exact ⟨_, (false), (t819), (t820), (t821), (t822), (t823), sz, H', ⟨oz⟩, ⟨vfV HO818.out⟩, ⟨bp BK801.out⟩, ⟨bp BK824.out⟩, ⟨hz HI808.out⟩, ⟨bz HB.out⟩⟩
 case rest =>
  clear HC4
  try clear Z11_0; try clear Z11_1; try clear Z11_2; try clear Z11_3; try clear Z11_4; try clear Z11_5; try clear Z11_6; try clear Z11_7; try clear F11_0; try clear F11_1; try clear F11_2; try clear F11_3; try clear F11_4; try clear F11_5; try clear F11_6; try clear F11_7
  obtain ⟨kq, x22_3, x809001_3, x809002_3, x809003_3, x809004_3, x809005_3, rfl, HA, HJ3, HO_825007, BK801, BK824, HI808, HB⟩ := hcut
  cases kq with
  | zero => exact absurd HA.out (by simp [expr_Parse.j0])
  | succ kj3 =>
   have H := HA.out
   clear HA
   simp only [expr_Parse.j0] at H
   by_cases c18 : x22_3 = true
   ·subst c18
    (try simp only [Bool.not_true, Bool.not_false])
    replace H := ift H
    exact absurd H (by simp)
   replace c18 := Bool.eq_false_iff.mpr c18
   subst c18
   (try simp only [Bool.not_true, Bool.not_false])
   replace H := iff_ H
   replace H := obe7 H
   obtain ⟨t831, t832, t833, t834, t835, t836, t837, A19, H⟩ := H
   by_cases c20 : t832 = 0
   ·replace H := ipe c20 H
    obtain ⟨H, c20b0, c20b1⟩ := H
    clear c20
    replace H := obe H
    obtain ⟨t838, A21, H⟩ := H
    by_cases c22 : t838 = true
    ·subst c22
     (try simp only [Bool.not_true, Bool.not_false])
     replace H := ift H
     simp only [Option.some.injEq, Prod.mk.injEq] at H
     obtain ⟨rfl, rfl, rfl, rfl, rfl, rfl, rfl, rfl, rfl, rfl⟩ := H
     go_wp2_with (first | ((with_reducible refine gate_callee (f := 34) rfl ?_); refine gl_ (some 27) Tryz.func34 (by kernel_rfl) #[.pointer (some ⟨g808, 0, none⟩)] rfl ?_; (with_reducible refine (expr_Parser_Error.calls g808 t802 x809001_3 x809002_3 x809003_3 x809004_3 x809005_3 t831 t832 t833 t834 t835 t836 t837 w _ ?side1 ?side2 A19.out).mono ?_); (case side1 => exact hz HI808.out); (case side2 => exact bz HB.out); rintro e w23 ⟨rfl, hi, hb, hk⟩; refine ⟨_, rfl, ?_⟩; replace HO_825007 := am (Kd.V_mono (Kd.V_keep (Kd.V_mono (ok := fun k_ => (((w.heap.size ≤ k_)) ∧ (k_ ≠ gb801 ∧ (k_ ≠ gb824 ∧ k_ ≠ g808)))) (vv HO_825007.out) (fun k_ hk_ => (⟨hk_, hk_.2.2.2⟩ : _ ∧ k_ ≠ g808))) hk (fun _ h => h.2)) (fun _ h => h.1)); replace BK801 := am (KeepBut.blk hk (bk BK801.out) NB801_808.out (by simp)); replace BK824 := am (KeepBut.blk hk (bk BK824.out) NB824_808.out (by simp)); replace HB := am (hb); replace HI808 := am (hi); clear hb hk hi; have hnb24 := NB824_801.out; have hnc24 := NB801_824.out; have hnb25 := NB824_808.out; have hnc25 := NB808_824.out; obtain ⟨Z26_0, Z26_1, Z26_2, Z26_3, Z26_4, Z26_5, Z26_6, Z26_7, F26_0, F26_1, F26_2, F26_3, F26_4, F26_5, F26_6, F26_7⟩ := cz8 BK824.out) | ((with_reducible refine gate_callee (f := 35) rfl ?_); refine gl_ (some 36) Tryz.func35 (by kernel_rfl) #[.agg #[.int .i64 t809, .int .i64 t810, .int .i64 t811, .int .i64 t812, .string t813, .int .i64 t814, .string t815, .slice Ao12 t816.length co12]] rfl ?_; (with_reducible refine (expr_Sound.calls kj3 t809 t810 t811 t812 t813 t814 t815 _ _ t816 true _ ?side1 ?side2 ?side3 A21.out).mono ?_); (case side1 => repeat (first | exact (Kd.V_reads' HO_825007.out).2.2 | (with_reducible refine Kd.C_alloc ?_ _) | (with_reducible refine Kd.C_drewN ?_ _) | (with_reducible refine Kd.C_drew ?_))); (case side2 => exact (Kd.V_reads' HO_825007.out).2.1); (case side3 => exact tabs_of HT.out (bz HB.out)); rintro e w27 ⟨rfl, hb⟩; refine ⟨_, rfl, ?_⟩; replace HO_825007 := am (Kd.V_below (vv HO_825007.out) hb); replace BK801 := kb BK801 hb; replace BK824 := kb BK824 hb; replace HB := sb HB hb; replace HI808 := am (IsS63.below (hz HI808.out) hb); clear hb; obtain ⟨Z28_0, Z28_1, Z28_2, Z28_3, Z28_4, Z28_5, Z28_6, Z28_7, F28_0, F28_1, F28_2, F28_3, F28_4, F28_5, F28_6, F28_7⟩ := cz8 BK824.out; have hnb29 := NB801_808.out; have hnc29 := NB808_801.out; obtain ⟨Z30_0, Z30_1, Z30_2, Z30_3, Z30_4, Z30_5, Z30_6, Z30_7, F30_0, F30_1, F30_2, F30_3, F30_4, F30_5, F30_6, F30_7⟩ := cz8 BK801.out))
     refine bodyPost_ret (results_ctt rfl _ _ gb801 31 #[.int .i64 t809, .int .i64 t810, .int .i64 t811, .int .i64 t812, .string t813, .int .i64 t814, .string t815, .slice Ao12 t816.length co12] (0, 0) _ rfl (bp BK801.out) Tryz.underlying31 rfl (by kernel_rfl)) rfl ?_
     exact ⟨_, az, by (with_reducible repeat (first | apply Kd.V_alloc | apply Kd.V_drewN | apply Kd.V_drew)); exact Kd.V_mono (Kd.V_far (p := ⟨gb801, 7, none⟩) (Kd.V_far (p := ⟨gb801, 6, none⟩) (Kd.V_far (p := ⟨gb801, 5, none⟩) (Kd.V_far (p := ⟨gb801, 4, none⟩) (Kd.V_far (p := ⟨gb801, 3, none⟩) (Kd.V_far (p := ⟨gb801, 2, none⟩) (Kd.V_far (p := ⟨gb801, 1, none⟩) (Kd.V_far (p := ⟨gb801, 0, none⟩) (Kd.V_mono HO_825007.out (fun k_ hk => (⟨hk, hk.2.1⟩ : _ ∧ k_ ≠ gb801))) (fun _ hk => hk.2) (.int .i64 t809)) (fun _ hk => hk.2) (.int .i64 t810)) (fun _ hk => hk.2) (.int .i64 t811)) (fun _ hk => hk.2) (.int .i64 t812)) (fun _ hk => hk.2) (.string t813)) (fun _ hk => hk.2) (.int .i64 t814)) (fun _ hk => hk.2) (.string t815)) (fun _ hk => hk.2) (.slice Ao12 t816.length co12)) (fun _ hk => Nat.le_trans HBO.out.size hk.1.1), bz (below_then HBO.out HBO.out.size HB.out)⟩
    replace c22 := Bool.eq_false_iff.mpr c22
    subst c22
    (try simp only [Bool.not_true, Bool.not_false])
    replace H := iff_ H
    exact absurd H (by simp)
   rw [if_neg c20] at H
   exact absurd H (by simp)
end Go.Proofs.YtgkemhgihbfmmaaGreatDoor.PA
end
section
namespace Go.Proofs.YtgkemhgihbfmmaaGreatDoor.PA
open Go.RowKit Go.Proofs.YtgkemhgihbfmmaaGreatDoorW.PrintWords Go.Proofs.YtgkemhgihbfmmaaGreatDoorW.PrintLast Go.Proofs.YtgkemhgihbfmmaaGreatDoorW.PrintMore
attribute [local go_sem] max2_int min2_int max_two min_two max_three min_three max_four min_four isSome_set str_gtr
set_option linter.unusedVariables false
set_option linter.unusedSimpArgs false
def calc_Less.j0 : Nat → Int → Bool → Option (Int × Int × Int × ByteArray × Int)
 | 0, _, _ => none
 | k + 1, x5, x31 => if x31 = true then (some (0, 0, 0, (⟨#[]⟩ : ByteArray), 0)) else ((logic_Truth.f (decide (x5 < 0))).bind fun bt844 => (some (bt844.1, bt844.2.1, bt844.2.2.1, bt844.2.2.2.1, bt844.2.2.2.2)))
def calc_Less.f (k : Nat) (a0_0 a0_1 a0_2 : Int) (a0_3 : ByteArray) (a0_4 a1_0 a1_1 a1_2 : Int) (a1_3 : ByteArray) (a1_4 : Int) : Option (Int × Int × Int × ByteArray × Int) := (value_Compare.f k a0_0 a0_1 a0_2 a0_3 a0_4 a1_0 a1_1 a1_2 a1_3 a1_4).bind fun bt842 => (if bt842.2 = 0 then (if a0_0 = a1_0 then (if a0_0 = 0 then (calc_Less.j0 k bt842.1 true) else (calc_Less.j0 k bt842.1 (a0_0 == 3))) else (calc_Less.j0 k bt842.1 true)) else (calc_Less.j0 k bt842.1 true))
theorem calc_Less.mono_l : ∀ k, (∀ y0 y1, LeO (calc_Less.j0 k y0 y1) (calc_Less.j0 (k + 1) y0 y1))
 | 0 => fun _ _ r h => by simp [calc_Less.j0] at h
 | k + 1 => by
  have ih0 := calc_Less.mono_l k
  ·intro y0 y1
   unfold calc_Less.j0
   have q0 := @value_Compare.mono; exact lmo
theorem calc_Less.mono : ∀ a0 a1 a2 a3 a4 a5 a6 a7 a8 a9 k, LeO (calc_Less.f k a0 a1 a2 a3 a4 a5 a6 a7 a8 a9) (calc_Less.f (k + 1) a0 a1 a2 a3 a4 a5 a6 a7 a8 a9) := by
 intro a0 a1 a2 a3 a4 a5 a6 a7 a8 a9 k
 have ih0 := calc_Less.mono_l k
 unfold calc_Less.f
 have q0 := @value_Compare.mono; exact lmo
set_option maxHeartbeats 8000000 in
set_option maxRecDepth 100000 in
theorem calc_Less.calls (k : Nat) (a0_0 a0_1 a0_2 : Int) (a0_3 : ByteArray) (a0_4 a1_0 a1_1 a1_2 : Int) (a1_3 : ByteArray) (a1_4 r1 r2 r3 : Int) (r4 : ByteArray) (r5 : Int) (w : World) (hT : Tabs w) (h : calc_Less.f k a0_0 a0_1 a0_2 a0_3 a0_4 a1_0 a1_1 a1_2 a1_3 a1_4 = some (r1, r2, r3, r4, r5)) :
  Calls Tryz.prog 28 #[.agg #[.int .i64 a0_0, .int .i64 a0_1, .int .i64 a0_2, .string a0_3, .int .i64 a0_4], .agg #[.int .i64 a1_0, .int .i64 a1_1, .int .i64 a1_2, .string a1_3, .int .i64 a1_4]] w fun e w' => e = .returned (.agg #[.int .i64 r1, .int .i64 r2, .int .i64 r3, .string r4, .int .i64 r5]) ∧ Below w.heap.size w w' := by
 have hu25 := Tryz.underlying25
 have HT := am hT; have HZ := am hT.null.pos; obtain ⟨hn0_, hn1_, hn2_, hn3_, hn4_⟩ := hT.null
 clear hT
 have HB := am (Below.refl w.heap.size w)
 have H : ((value_Compare.f k a0_0 a0_1 a0_2 a0_3 a0_4 a1_0 a1_1 a1_2 a1_3 a1_4).bind fun bt842 => (if bt842.2 = 0 then (if a0_0 = a1_0 then (if a0_0 = 0 then (calc_Less.j0 k bt842.1 true) else (calc_Less.j0 k bt842.1 (a0_0 == 3))) else (calc_Less.j0 k bt842.1 true)) else (calc_Less.j0 k bt842.1 true))) = some (r1, r2, r3, r4, r5) := h
 clear h
 replace H := obe2 H
 obtain ⟨t842, t843, A3, H⟩ := H
 have HC4 := am H
 clear H
 go_enter Tryz.func28, Tryz.ntmps28
 go_upto_region 2 with (first | ((with_reducible refine gate_dst (N := 2) rfl ?_); refine bev (#[.int .i64 a0_0, .int .i64 a0_1, .int .i64 a0_2, .string a0_3, .int .i64 a0_4]) 25 ?_; intro gb839 hg w5 hbox hb; have BK839 := am (hbox); have GW839 := gs hg HB; have hz839 := ne0 HZ.out GW839.out; have GE839 := GW839; replace HB := sb HB hb; obtain ⟨_, _, _, _, _⟩ := nz HT HB; clear hb hbox hg) | ((with_reducible refine gate_dst (N := 3) rfl ?_); refine bev (#[.int .i64 a1_0, .int .i64 a1_1, .int .i64 a1_2, .string a1_3, .int .i64 a1_4]) 25 ?_; intro gb840 hg w6 hbox hb; have BK840 := am (hbox); have GW840 := gs hg HB; have hz840 := ne0 HZ.out GW840.out; have GE840 := GW840; replace HB := sb HB hb; obtain ⟨_, _, _, _, _⟩ := nz HT HB; have NB839_840 := na hg BK839; have NB840_839 := nb hg BK839; replace BK839 := kb BK839 hb; clear hb hbox hg) | ((with_reducible refine gate_dst (N := 4) rfl ?_); refine bev (#[.int .i64 0, .int .i64 0, .int .i64 0, .string (⟨#[]⟩ : ByteArray), .int .i64 0]) 25 ?_; intro gb841 hg w7 hbox hb; have BK841 := am (hbox); have GW841 := gs hg HB; have hz841 := ne0 HZ.out GW841.out; have GE841 := GW841; replace HB := sb HB hb; obtain ⟨_, _, _, _, _⟩ := nz HT HB; have NB839_841 := na hg BK839; have NB841_839 := nb hg BK839; replace BK839 := kb BK839 hb; have NB840_841 := na hg BK840; have NB841_840 := nb hg BK840; replace BK840 := kb BK840 hb; clear hb hbox hg; have hnb8 := NB839_840.out; have hnc8 := NB840_839.out; have hnb9 := NB839_841.out; have hnc9 := NB841_839.out; obtain ⟨Z10_0, Z10_1, Z10_2, Z10_3, Z10_4, F10_0, F10_1, F10_2, F10_3, F10_4⟩ := cz5 BK839.out; have hnb11 := NB840_841.out; have hnc11 := NB841_840.out; obtain ⟨Z12_0, Z12_1, Z12_2, Z12_3, Z12_4, F12_0, F12_1, F12_2, F12_3, F12_4⟩ := cz5 BK840.out) | ((with_reducible refine gate_callee (f := 61) rfl ?_); refine gl_ (some 10) Tryz.func61 (by kernel_rfl) #[.agg #[.int .i64 a0_0, .int .i64 a0_1, .int .i64 a0_2, .string a0_3, .int .i64 a0_4], .agg #[.int .i64 a1_0, .int .i64 a1_1, .int .i64 a1_2, .string a1_3, .int .i64 a1_4]] rfl ?_; (with_reducible refine (value_Compare.calls k a0_0 a0_1 a0_2 a0_3 a0_4 a1_0 a1_1 a1_2 a1_3 a1_4 t842 t843 _ ?side1 A3.out).mono ?_); (case side1 => exact tabs_of HT.out (bz HB.out)); rintro e w13 ⟨rfl, hb⟩; refine ⟨_, rfl, ?_⟩; replace BK839 := kb BK839 hb; replace BK840 := kb BK840 hb; replace BK841 := kb BK841 hb; replace HB := sb HB hb; obtain ⟨_, _, _, _, _⟩ := nz HT HB; clear hb))
 (try simp only [Act.put, List.setIfInBounds_toArray, List.set_cons_zero, List.set_cons_succ])
 go_cut [31] (fun v31 wc => ∃ (kq : Nat) (x31_3 : Bool), v31 = .bool x31_3 ∧ Aside0 (calc_Less.j0 kq t842 x31_3 = some (r1, r2, r3, r4, r5)) ∧ Aside0 (kq ≤ k) ∧ Aside0 (wc.heap[gb839]? = some (.cells #[.int .i64 a0_0, .int .i64 a0_1, .int .i64 a0_2, .string a0_3, .int .i64 a0_4] 25 (0, 0))) ∧ Aside0 (wc.heap[gb840]? = some (.cells #[.int .i64 a1_0, .int .i64 a1_1, .int .i64 a1_2, .string a1_3, .int .i64 a1_4] 25 (0, 0))) ∧ Aside0 (wc.heap[gb841]? = some (.cells #[.int .i64 0, .int .i64 0, .int .i64 0, .string (⟨#[]⟩ : ByteArray), .int .i64 0] 25 (0, 0))) ∧ Aside0 (Below w.heap.size w wc))
 case first =>
  have H := HC4.out
  clear HC4
  by_cases c14 : t843 = 0
  ·replace H := ipe c14 H
   obtain ⟨H, c14b0, c14b1⟩ := H
   clear c14
   (first | rw [c14b0] | (simp only [i64_w, i32_w]; rw [c14b0]) | skip)
   by_cases c15 : a0_0 = a1_0
   ·replace H := ipe c15 H
    obtain ⟨H, c15b0, c15b1⟩ := H
    clear c15
    by_cases c16 : a0_0 = 0
    ·replace H := ipe c16 H
     obtain ⟨H, c16b0, c16b1⟩ := H
     clear c16
     have H' := am H
     clear H
     have hnb17 := NB839_840.out
     have hnc17 := NB840_839.out
     have hnb18 := NB839_841.out
     have hnc18 := NB841_839.out
     obtain ⟨Z19_0, Z19_1, Z19_2, Z19_3, Z19_4, F19_0, F19_1, F19_2, F19_3, F19_4⟩ := cz5 BK839.out
     have hnb20 := NB840_841.out
     have hnc20 := NB841_840.out
     obtain ⟨Z21_0, Z21_1, Z21_2, Z21_3, Z21_4, F21_0, F21_1, F21_2, F21_3, F21_4⟩ := cz5 BK840.out
     go_wp2
     go_meet
     case rel => exact ⟨_, (true), sz, H', ⟨oz⟩, ⟨bk BK839.out⟩, ⟨bk BK840.out⟩, ⟨bk BK841.out⟩, ⟨bz HB.out⟩⟩
    replace H := ine c16 H
    obtain ⟨H, c16b0, c16b1⟩ := H
    have H' := am H
    clear H
    have hnb22 := NB839_840.out
    have hnc22 := NB840_839.out
    have hnb23 := NB839_841.out
    have hnc23 := NB841_839.out
    obtain ⟨Z24_0, Z24_1, Z24_2, Z24_3, Z24_4, F24_0, F24_1, F24_2, F24_3, F24_4⟩ := cz5 BK839.out
    have hnb25 := NB840_841.out
    have hnc25 := NB841_840.out
    obtain ⟨Z26_0, Z26_1, Z26_2, Z26_3, Z26_4, F26_0, F26_1, F26_2, F26_3, F26_4⟩ := cz5 BK840.out
    go_wp2
    go_meet
    case rel => exact ⟨_, ((a0_0 == 3)), sz, H', ⟨oz⟩, ⟨bk BK839.out⟩, ⟨bk BK840.out⟩, ⟨bk BK841.out⟩, ⟨bz HB.out⟩⟩
   replace H := ine c15 H
   obtain ⟨H, c15b0, c15b1⟩ := H
   have H' := am H
   clear H
   have hnb27 := NB839_840.out
   have hnc27 := NB840_839.out
   have hnb28 := NB839_841.out
   have hnc28 := NB841_839.out
   obtain ⟨Z29_0, Z29_1, Z29_2, Z29_3, Z29_4, F29_0, F29_1, F29_2, F29_3, F29_4⟩ := cz5 BK839.out
   have hnb30 := NB840_841.out
   have hnc30 := NB841_840.out
   obtain ⟨Z31_0, Z31_1, Z31_2, Z31_3, Z31_4, F31_0, F31_1, F31_2, F31_3, F31_4⟩ := cz5 BK840.out
   go_wp2
   go_meet
   case rel => exact ⟨_, (true), sz, H', ⟨oz⟩, ⟨bk BK839.out⟩, ⟨bk BK840.out⟩, ⟨bk BK841.out⟩, ⟨bz HB.out⟩⟩
  replace H := ine c14 H
  obtain ⟨H, c14b0, c14b1⟩ := H
  (first | rw [c14b0] | (simp only [i64_w, i32_w]; rw [c14b0]) | skip)
  have H' := am H
  clear H
  go_wp2
  go_meet
  case rel => exact ⟨_, (true), sz, H', ⟨oz⟩, ⟨bk BK839.out⟩, ⟨bk BK840.out⟩, ⟨bk BK841.out⟩, ⟨bz HB.out⟩⟩
 case rest =>
  clear HC4
  try clear Z10_0; try clear Z10_1; try clear Z10_2; try clear Z10_3; try clear Z10_4; try clear Z12_0; try clear Z12_1; try clear Z12_2; try clear Z12_3; try clear Z12_4; try clear F10_0; try clear F10_1; try clear F10_2; try clear F10_3; try clear F10_4; try clear F12_0; try clear F12_1; try clear F12_2; try clear F12_3; try clear F12_4
  obtain ⟨kq, x31_3, rfl, HA, HJ3, BK839, BK840, BK841, HB⟩ := hcut; obtain ⟨_, _, _, _, _⟩ := nz HT HB
  cases kq with
  | zero => exact absurd HA.out (by simp [calc_Less.j0])
  | succ kj3 =>
   have H := HA.out
   clear HA
   simp only [calc_Less.j0] at H
   by_cases c32 : x31_3 = true
   ·subst c32
    (try simp only [Bool.not_true, Bool.not_false])
    replace H := ift H
    simp only [Option.some.injEq, Prod.mk.injEq] at H
    obtain ⟨rfl, rfl, rfl, rfl, rfl⟩ := H
    have hnb33 := NB841_839.out
    have hnc33 := NB839_841.out
    have hnb34 := NB841_840.out
    have hnc34 := NB840_841.out
    obtain ⟨Z35_0, Z35_1, Z35_2, Z35_3, Z35_4, F35_0, F35_1, F35_2, F35_3, F35_4⟩ := cz5 BK841.out
    go_wp2
    refine bodyPost_ret (results_cell_row rfl _ _ gb841 25 #[.int .i64 0, .int .i64 0, .int .i64 0, .string (⟨#[]⟩ : ByteArray), .int .i64 0] (0, 0) _ rfl (bp BK841.out) Tryz.underlying25 rfl (by kernel_rfl)) rfl ?_
    exact ⟨az, bz HB.out⟩
   replace c32 := Bool.eq_false_iff.mpr c32
   subst c32
   (try simp only [Bool.not_true, Bool.not_false])
   replace H := iff_ H
   replace H := obe5 H
   obtain ⟨t844, t845, t846, t847, t848, A36, H⟩ := H
   simp only [Option.some.injEq, Prod.mk.injEq] at H
   obtain ⟨rfl, rfl, rfl, rfl, rfl⟩ := H
   go_wp2_with (first | ((with_reducible refine gate_callee (f := 59) rfl ?_); refine gl_ (some 35) Tryz.func59 (by kernel_rfl) #[.bool (decide (t842 < 0))] rfl ?_; (with_reducible refine (logic_Truth.calls (decide (t842 < 0)) t844 t845 t846 t847 t848 _ A36.out).mono ?_); rintro e w37 ⟨rfl, hb⟩; refine ⟨_, rfl, ?_⟩; replace BK839 := kb BK839 hb; replace BK840 := kb BK840 hb; replace BK841 := kb BK841 hb; replace HB := sb HB hb; obtain ⟨_, _, _, _, _⟩ := nz HT HB; clear hb; have hnb38 := NB841_839.out; have hnc38 := NB839_841.out; have hnb39 := NB841_840.out; have hnc39 := NB840_841.out; obtain ⟨Z40_0, Z40_1, Z40_2, Z40_3, Z40_4, F40_0, F40_1, F40_2, F40_3, F40_4⟩ := cz5 BK841.out))
   refine bodyPost_ret (results_cell_row rfl _ _ gb841 25 #[.int .i64 t844, .int .i64 t845, .int .i64 t846, .string t847, .int .i64 t848] (0, 0) _ rfl (bp BK841.out) Tryz.underlying25 rfl (by kernel_rfl)) rfl ?_
   exact ⟨az, bz HB.out⟩
end Go.Proofs.YtgkemhgihbfmmaaGreatDoor.PA
end
section
namespace Go.Proofs.YtgkemhgihbfmmaaGreatDoor.PA
open Go.RowKit Go.Proofs.YtgkemhgihbfmmaaGreatDoorW.PrintWords Go.Proofs.YtgkemhgihbfmmaaGreatDoorW.PrintLast Go.Proofs.YtgkemhgihbfmmaaGreatDoorW.PrintMore
attribute [local go_sem] max2_int min2_int max_two min_two max_three min_three max_four min_four isSome_set str_gtr
set_option linter.unusedVariables false
set_option linter.unusedSimpArgs false
attribute [local go_sem high] eqA25
def logic_Is.f (a0_0 a0_1 a0_2 : Int) (a0_3 : ByteArray) (a0_4 : Int) : Option (Bool) := (logic_Truth.f true).bind fun bt850 => (some (a0_0 == bt850.1 && ((a0_1 == bt850.2.1 && (a0_2 == bt850.2.2.1)) && (a0_3.toList == bt850.2.2.2.1.toList && (a0_4 == bt850.2.2.2.2)))))
set_option maxHeartbeats 8000000 in
set_option maxRecDepth 100000 in
theorem logic_Is.calls (a0_0 a0_1 a0_2 : Int) (a0_3 : ByteArray) (a0_4 : Int) (r : Bool) (w : World) (h : logic_Is.f a0_0 a0_1 a0_2 a0_3 a0_4 = some r) :
  Calls Tryz.prog 78 #[.agg #[.int .i64 a0_0, .int .i64 a0_1, .int .i64 a0_2, .string a0_3, .int .i64 a0_4]] w fun e w' => e = .returned (.bool r) ∧ Below w.heap.size w w' := by
 have hu25 := Tryz.underlying25
 have HB := am (Below.refl w.heap.size w)
 have H : ((logic_Truth.f true).bind fun bt850 => (some (a0_0 == bt850.1 && ((a0_1 == bt850.2.1 && (a0_2 == bt850.2.2.1)) && (a0_3.toList == bt850.2.2.2.1.toList && (a0_4 == bt850.2.2.2.2)))))) = some r := h
 clear h
 replace H := obe5 H
 obtain ⟨t850, t851, t852, t853, t854, A2, H⟩ := H
 obtain rfl := Option.some.inj H
 go_enter Tryz.func78, Tryz.ntmps78
 try go_wp2_with (first | ((with_reducible refine gate_dst (N := 1) rfl ?_); refine bev (#[.int .i64 a0_0, .int .i64 a0_1, .int .i64 a0_2, .string a0_3, .int .i64 a0_4]) 25 ?_; intro gb849 hg w3 hbox hb; have BK849 := am (hbox); have GW849 := gs hg HB; have GE849 := GW849; replace HB := sb HB hb; clear hb hbox hg))
 replace BK849 := am (blk_drew BK849.out)
 replace HB := am (below_drew1 HB.out)
 refine start_ (n := 4) (S := fun w' => w'.cell? ⟨gb849, 0, none⟩ = some (.int .i64 a0_0) ∧ w'.cell? ⟨gb849, 1, none⟩ = some (.int .i64 a0_1) ∧ w'.cell? ⟨gb849, 2, none⟩ = some (.int .i64 a0_2) ∧ w'.cell? ⟨gb849, 3, none⟩ = some (.string a0_3) ∧ w'.cell? ⟨gb849, 4, none⟩ = some (.int .i64 a0_4)) (ds := []) #[false, false, false, false] (by kernel_rfl) rfl rfl ⟨(blk_cell BK849.out 0).trans rfl, (blk_cell BK849.out 1).trans rfl, (blk_cell BK849.out 2).trans rfl, (blk_cell BK849.out 3).trans rfl, (blk_cell BK849.out 4).trans rfl⟩ (fun hHeld => ?_)
 generalize w3.drew = w4 at BK849 HB hHeld ⊢
 refine ta 0 (some 3) (bts 4 1) (by kernel_rfl) hHeld ?_
 refine one_ (i := 1) (N := some 4) (bts 4 3) rfl rfl (by kernel_rfl) (by decide) (fun K hK => ?_)
 refine goes_ Tryz.func59 (by kernel_rfl) rfl #[.bool true] (by rfl) rfl rfl lz ?_
 with_reducible refine (logic_Truth.calls true t850 t851 t852 t853 t854 _ A2.out).mono ?_
 rintro e w5 ⟨rfl, hb⟩
 refine ⟨_, rfl, ?_⟩
 replace BK849 := kb BK849 hb
 replace HB := sb HB hb
 (try clear hb)
 (try clear hb2)
 (try clear hk)
 (try clear hi)
 refine hK.out _ _ ⟨(blk_cell BK849.out 0).trans rfl, (blk_cell BK849.out 1).trans rfl, (blk_cell BK849.out 2).trans rfl, (blk_cell BK849.out 3).trans rfl, (blk_cell BK849.out 4).trans rfl⟩ (fun hHeld => ?_)
 clear hK K
 refine norm_ (a' := ?_) ?_ ?_
 rotate_left
 ·show Act.put _ (some 4) _ = _
  simp only [Act.put, List.setIfInBounds_toArray, List.set_cons_zero, List.set_cons_succ, i64_w, i32_w]
  rfl
 refine pu 2 (some 5) (bts 4 7) (by kernel_rfl) ?_
 refine pu 3 (some 2) (bts 4 15) (by kernel_rfl) ?_
 refine done_ (by kernel_rfl) ?_
 try go_wp2
 go_ret
 exact ⟨az, bz HB.out⟩
end Go.Proofs.YtgkemhgihbfmmaaGreatDoor.PA
end
section
namespace Go.Proofs.YtgkemhgihbfmmaaGreatDoor.PA
open Go.RowKit Go.Proofs.YtgkemhgihbfmmaaGreatDoorW.PrintWords Go.Proofs.YtgkemhgihbfmmaaGreatDoorW.PrintLast Go.Proofs.YtgkemhgihbfmmaaGreatDoorW.PrintMore
attribute [local go_sem] max2_int min2_int max_two min_two max_three min_three max_four min_four isSome_set str_gtr
set_option linter.unusedVariables false
set_option linter.unusedSimpArgs false
def deci_size.f (a0_0 a0_1 : Int) : Option (Int) := some (IntKind.u64.wrap (mx a0_0 (wrap64 (-a0_0))))
set_option maxHeartbeats 8000000 in
set_option maxRecDepth 100000 in
theorem deci_size.calls (a0_0 a0_1 r : Int) (w : World) (h : deci_size.f a0_0 a0_1 = some r) :
  Calls Tryz.prog 93 #[.agg #[.int .i64 a0_0, .int .i64 a0_1]] w fun e w' => e = .returned (.int .u64 r) ∧ Below w.heap.size w w' := by
 have hu23 := Tryz.underlying23
 have HB := am (Below.refl w.heap.size w)
 have H : (some (IntKind.u64.wrap (mx a0_0 (wrap64 (-a0_0))))) = some r := h
 clear h
 obtain ⟨ji2, hji2⟩ : ∃ j_ : Int, (mx a0_0 (wrap64 (-a0_0))) = j_ := ⟨_, rfl⟩
 replace H : (some (IntKind.u64.wrap (ji2))) = some r := by first | (rw [hji2] at H; exact H) | (simp only [hji2] at H ⊢; exact H)
 have hji2_ : (if a0_0 < (wrap64 (-a0_0)) then (wrap64 (-a0_0)) else a0_0) = ji2 := hji2
 obtain rfl := Option.some.inj H
 go_enter Tryz.func93, Tryz.ntmps93
 go_wp2_with (first | ((with_reducible refine gate_dst (N := 1) rfl ?_); refine bev (#[.int .i64 a0_0, .int .i64 a0_1]) 23 ?_; intro gb855 hg w3 hbox hb; have BK855 := am (hbox); have GW855 := gs hg HB; have GE855 := GW855; replace HB := sb HB hb; clear hb hbox hg; obtain ⟨Z4_0, Z4_1, F4_0, F4_1⟩ := cz2 BK855.out))
 go_ret
 exact ⟨by first | rfl | (simp [errW_none, errW_some] <;> rfl) | (simp only [← hji2]; first | rfl | (simp [errW_none, errW_some] <;> rfl)) | (simp [*, errW_none, errW_some] <;> rfl), bz HB.out⟩
end Go.Proofs.YtgkemhgihbfmmaaGreatDoor.PA
end
section
namespace Go.Proofs.YtgkemhgihbfmmaaGreatDoor.PA
open Go.RowKit Go.Proofs.YtgkemhgihbfmmaaGreatDoorW.PrintWords Go.Proofs.YtgkemhgihbfmmaaGreatDoorW.PrintLast Go.Proofs.YtgkemhgihbfmmaaGreatDoorW.PrintMore
attribute [local go_sem] max2_int min2_int max_two min_two max_three min_three max_four min_four isSome_set str_gtr
set_option linter.unusedVariables false
set_option linter.unusedSimpArgs false
end Go.Proofs.YtgkemhgihbfmmaaGreatDoor.PA
end
section
namespace Go.Proofs.YtgkemhgihbfmmaaGreatDoor.PA
open Go.RowKit Go.Proofs.YtgkemhgihbfmmaaGreatDoorW.PrintWords Go.Proofs.YtgkemhgihbfmmaaGreatDoorW.PrintLast Go.Proofs.YtgkemhgihbfmmaaGreatDoorW.PrintMore
attribute [local go_sem] max2_int min2_int max_two min_two max_three min_three max_four min_four isSome_set str_gtr
set_option linter.unusedVariables false
set_option linter.unusedSimpArgs false
end Go.Proofs.YtgkemhgihbfmmaaGreatDoor.PA
end
section
namespace Go.Proofs.YtgkemhgihbfmmaaGreatDoor.PA
open Go.RowKit Go.Proofs.YtgkemhgihbfmmaaGreatDoorW.PrintWords Go.Proofs.YtgkemhgihbfmmaaGreatDoorW.PrintLast Go.Proofs.YtgkemhgihbfmmaaGreatDoorW.PrintMore
attribute [local go_sem] max2_int min2_int max_two min_two max_three min_three max_four min_four isSome_set str_gtr
set_option linter.unusedVariables false
set_option linter.unusedSimpArgs false
def bits_Div64.f (a0 a1 a2 : Int) : Option (Int × Int) := if a2 = 0 then (none) else (if a2 ≤ a0 then (none) else (if a0 = 0 then (some (IntKind.u64.wrap (Int.tdiv a1 a2), Int.tmod a1 a2)) else (none)))
set_option maxHeartbeats 8000000 in
set_option maxRecDepth 100000 in
theorem bits_Div64.calls (a0 a1 a2 r1 r2 : Int) (w : World) (h : bits_Div64.f a0 a1 a2 = some (r1, r2)) :
  Calls Tryz.prog 137 #[.int .u64 a0, .int .u64 a1, .int .u64 a2] w fun e w' => e = .returned (.tuple #[.int .u64 r1, .int .u64 r2]) ∧ Drawn0 w w' := by
 have H : (if a2 = 0 then (none) else (if a2 ≤ a0 then (none) else (if a0 = 0 then (some (IntKind.u64.wrap (Int.tdiv a1 a2), Int.tmod a1 a2)) else (none)))) = some (r1, r2) := h
 clear h
 by_cases c4 : a2 = 0
 ·rw [if_pos c4] at H
  exact absurd H (by simp)
 replace H := ine c4 H
 obtain ⟨H, c4b0, c4b1⟩ := H
 by_cases c5 : a2 ≤ a0
 ·rw [if_pos c5] at H
  exact absurd H (by simp)
 rw [if_neg c5] at H
 have c5b0 : decide (a2 ≤ a0) = false := decide_eq_false c5
 clear c5
 by_cases c6 : a0 = 0
 ·replace H := ipe c6 H
  obtain ⟨H, c6b0, c6b1⟩ := H
  clear c6
  simp only [Option.some.injEq, Prod.mk.injEq] at H
  obtain ⟨rfl, rfl⟩ := H
  go_enter Tryz.func137, Tryz.ntmps137
  go_wp2
  repeat (go_quiet (fail); try go_wp2)
  go_ret2
  exact ⟨sz, dz⟩
 rw [if_neg c6] at H
 exact absurd H (by simp)
end Go.Proofs.YtgkemhgihbfmmaaGreatDoor.PA
end
section
namespace Go.Proofs.YtgkemhgihbfmmaaGreatDoor.PA
open Go.RowKit Go.Proofs.YtgkemhgihbfmmaaGreatDoorW.PrintWords Go.Proofs.YtgkemhgihbfmmaaGreatDoorW.PrintLast Go.Proofs.YtgkemhgihbfmmaaGreatDoorW.PrintMore
attribute [local go_sem] max2_int min2_int max_two min_two max_three min_three max_four min_four isSome_set str_gtr
set_option linter.unusedVariables false
set_option linter.unusedSimpArgs false
def deci_even.j0 : Nat → Int → Bool → Option (Int × Bool)
 | 0, _, _ => none
 | k + 1, x8, x36 => if x36 = true then (none) else (some (x8, true))
def deci_even.f (k : Nat) (a0 a1 a2 : Int) : Option (Int × Bool) := if a0 ≥ a2 then (none) else ((bits_Div64.f a0 a1 a2).bind fun bt856 => (if bt856.2 > (IntKind.u64.wrap (a2 - bt856.2)) then (deci_even.j0 k bt856.1 true) else (if bt856.2 = (IntKind.u64.wrap (a2 - bt856.2)) then (deci_even.j0 k bt856.1 ((Int.tmod bt856.1 2) == 1)) else (deci_even.j0 k bt856.1 false))))
theorem deci_even.mono_l : ∀ k, (∀ y0 y1, LeO (deci_even.j0 k y0 y1) (deci_even.j0 (k + 1) y0 y1))
 | 0 => fun _ _ r h => by simp [deci_even.j0] at h
 | k + 1 => by
  have ih0 := deci_even.mono_l k
  ·intro y0 y1
   unfold deci_even.j0
   exact lmo
theorem deci_even.mono : ∀ a0 a1 a2 k, LeO (deci_even.f k a0 a1 a2) (deci_even.f (k + 1) a0 a1 a2) := by
 intro a0 a1 a2 k
 have ih0 := deci_even.mono_l k
 unfold deci_even.f
 exact lmo
set_option maxHeartbeats 8000000 in
set_option maxRecDepth 100000 in
theorem deci_even.calls (k : Nat) (a0 a1 a2 r1 : Int) (r2 : Bool) (w : World) (h : deci_even.f k a0 a1 a2 = some (r1, r2)) :
  Calls Tryz.prog 96 #[.int .u64 a0, .int .u64 a1, .int .u64 a2] w fun e w' => e = .returned (.tuple #[.int .u64 r1, .bool r2]) ∧ Drawn0 w w' := by
 have H : (if a0 ≥ a2 then (none) else ((bits_Div64.f a0 a1 a2).bind fun bt856 => (if bt856.2 > (IntKind.u64.wrap (a2 - bt856.2)) then (deci_even.j0 k bt856.1 true) else (if bt856.2 = (IntKind.u64.wrap (a2 - bt856.2)) then (deci_even.j0 k bt856.1 ((Int.tmod bt856.1 2) == 1)) else (deci_even.j0 k bt856.1 false))))) = some (r1, r2) := h
 clear h
 by_cases c4 : a0 ≥ a2
 ·rw [if_pos c4] at H
  exact absurd H (by simp)
 rw [if_neg c4] at H
 have c4b0 : decide (a2 ≤ a0) = false := decide_eq_false c4
 clear c4
 replace H := obe2 H
 obtain ⟨t856, t857, A5, H⟩ := H
 have HC6 := am H
 clear H
 go_enter Tryz.func96, Tryz.ntmps96
 go_upto_region 5 with (first | ((with_reducible refine gate_callee (f := 137) rfl ?_); refine gl_ (some 18) Tryz.func137 (by kernel_rfl) #[.int .u64 a0, .int .u64 a1, .int .u64 a2] rfl ?_; (with_reducible refine (bits_Div64.calls a0 a1 a2 t856 t857 _ A5.out).mono ?_); rintro e w' ⟨rfl, ⟨nd, rfl⟩⟩; refine ⟨_, rfl, ?_⟩))
 (try simp only [Act.put, List.setIfInBounds_toArray, List.set_cons_zero, List.set_cons_succ])
 go_cut [36] (fun v36 wc => ∃ (kq : Nat) (x36_5 : Bool), v36 = .bool x36_5 ∧ Aside0 (deci_even.j0 kq t856 x36_5 = some (r1, r2)) ∧ Aside0 (kq ≤ k) ∧ Drawn0 w wc)
 case first =>
  have H := HC6.out
  clear HC6
  by_cases c7 : t857 > (IntKind.u64.wrap (a2 - t857))
  ·rw [if_pos c7] at H
   have c7b0 : decide ((IntKind.u64.wrap (a2 - t857)) < t857) = true := decide_eq_true c7
   clear c7
   (first | rw [c7b0] | (simp only [i64_w, i32_w]; rw [c7b0]) | skip)
   have H' := am H
   clear H
   go_wp2
   go_meet
   case rel => exact ⟨_, (true), sz, H', ⟨oz⟩, dz⟩
  rw [if_neg c7] at H
  have c7b0 : decide ((IntKind.u64.wrap (a2 - t857)) < t857) = false := decide_eq_false c7
  clear c7
  (first | rw [c7b0] | (simp only [i64_w, i32_w]; rw [c7b0]) | skip)
  by_cases c8 : t857 = (IntKind.u64.wrap (a2 - t857))
  ·replace H := ipe c8 H
   obtain ⟨H, c8b0, c8b1⟩ := H
   clear c8
   have H' := am H
   clear H
   go_wp2
   go_meet
   case rel => exact ⟨_, (((Int.tmod t856 2) == 1)), sz, H', ⟨oz⟩, dz⟩
  replace H := ine c8 H
  obtain ⟨H, c8b0, c8b1⟩ := H
  have H' := am H
  clear H
  go_wp2
  go_meet
  case rel => exact ⟨_, (false), sz, H', ⟨oz⟩, dz⟩
 case rest =>
  clear HC6
  try clear c4; try clear c4b0
  obtain ⟨kq, x36_5, rfl, HA, HJ5, ⟨mc5, rfl⟩⟩ := hcut
  cases kq with
  | zero => exact absurd HA.out (by simp [deci_even.j0])
  | succ kj5 =>
   have H := HA.out
   clear HA
   simp only [deci_even.j0] at H
   by_cases c9 : x36_5 = true
   ·subst c9
    replace H := ift H
    exact absurd H (by simp)
   replace c9 := Bool.eq_false_iff.mpr c9
   subst c9
   replace H := iff_ H
   simp only [Option.some.injEq, Prod.mk.injEq] at H
   obtain ⟨rfl, rfl⟩ := H
   go_wp2
   go_ret2
   exact ⟨sz, dz⟩
end Go.Proofs.YtgkemhgihbfmmaaGreatDoor.PA
end
section
namespace Go.Proofs.YtgkemhgihbfmmaaGreatDoor.PA
open Go.RowKit Go.Proofs.YtgkemhgihbfmmaaGreatDoorW.PrintWords Go.Proofs.YtgkemhgihbfmmaaGreatDoorW.PrintLast Go.Proofs.YtgkemhgihbfmmaaGreatDoorW.PrintMore
attribute [local go_sem] max2_int min2_int max_two min_two max_three min_three max_four min_four isSome_set str_gtr
set_option linter.unusedVariables false
set_option linter.unusedSimpArgs false
def deci_Mul.f (k : Nat) (a0_0 a0_1 a1_0 a1_1 : Int) : Option (Int × Int × Int) := (deci_all.f k (([(⟨a0_0, a0_1⟩ : S23), (⟨a1_0, a1_1⟩ : S23)] : List (S23)))).bind fun t864 => (if t864 = 0 then ((deci_size.f a0_0 a0_1).bind fun t865 => ((deci_size.f a1_0 a1_1).bind fun t866 => ((bits_Mul64.f t865 t866).bind fun bt867 => ((deci_power.f k (mx 0 (wrap64 ((wrap64 (a0_1 + a1_1)) - 6)))).bind fun t869 => ((deci_even.f k bt867.1 bt867.2 t869).bind fun bt870 => (if bt870.2 = true then ((deci_form_dec.f k bt870.1 (mn (wrap64 (a0_1 + a1_1)) 6) ((decide (a0_0 < 0)) != (decide (a1_0 < 0)))).bind fun bt872 => (some (bt872.1, bt872.2.1, bt872.2.2))) else (none))))))) else (none))
theorem deci_Mul.mono : ∀ a0 a1 a2 a3 k, LeO (deci_Mul.f k a0 a1 a2 a3) (deci_Mul.f (k + 1) a0 a1 a2 a3) := by
 intro a0 a1 a2 a3 k
 unfold deci_Mul.f
 have q0 := @deci_all.mono; have q1 := @deci_even.mono; have q2 := @deci_form_dec.mono; have q3 := @deci_power.mono; exact lmo
def deci_Mul.T4 : Bool × List (List Nat × List Nat) := (true, [([], []), ([0], [0]), ([], []), ([2, 1], [2]), ([1, 3, 3], [1, 3]), ([4], [4]), ([5], [5]), ([5], [5]), ([6, 4, 0, 1, 2, 3, 4, 5, 6], [6]), ([7, 8, 0, 1, 2, 3, 4, 5, 6, 7, 8], [7])])
def deci_Mul.B4 : List Nat := [0, 1, 0, 7, 15, 31, 63, 63, 127, 511]
theorem deci_Mul.tab4 : rtab .any (opsOf Tryz.f119 4) = deci_Mul.T4 := by kernel_rfl
theorem deci_Mul.bits4 : waitsOk deci_Mul.T4.2 deci_Mul.B4 = true := by kernel_rfl
set_option maxHeartbeats 8000000 in
set_option maxRecDepth 100000 in
theorem deci_Mul.calls (k : Nat) (a0_0 a0_1 a1_0 a1_1 r1 r2 r3 : Int) (w : World) (h : deci_Mul.f k a0_0 a0_1 a1_0 a1_1 = some (r1, r2, r3)) :
  Calls Tryz.prog 119 #[.agg #[.int .i64 a0_0, .int .i64 a0_1], .agg #[.int .i64 a1_0, .int .i64 a1_1]] w fun e w' => e = .returned (.tuple #[.agg #[.int .i64 r1, .int .i64 r2], .int .i64 r3]) ∧ Below w.heap.size w w' := by
 have hu23 := Tryz.underlying23
 have hu77 := Tryz.underlying77
 have HB := am (Below.refl w.heap.size w)
 have H : ((deci_all.f k (([(⟨a0_0, a0_1⟩ : S23), (⟨a1_0, a1_1⟩ : S23)] : List (S23)))).bind fun t864 => (if t864 = 0 then ((deci_size.f a0_0 a0_1).bind fun t865 => ((deci_size.f a1_0 a1_1).bind fun t866 => ((bits_Mul64.f t865 t866).bind fun bt867 => ((deci_power.f k (mx 0 (wrap64 ((wrap64 (a0_1 + a1_1)) - 6)))).bind fun t869 => ((deci_even.f k bt867.1 bt867.2 t869).bind fun bt870 => (if bt870.2 = true then ((deci_form_dec.f k bt870.1 (mn (wrap64 (a0_1 + a1_1)) 6) ((decide (a0_0 < 0)) != (decide (a1_0 < 0)))).bind fun bt872 => (some (bt872.1, bt872.2.1, bt872.2.2))) else (none))))))) else (none))) = some (r1, r2, r3) := h
 clear h
 obtain ⟨y861, hy861⟩ : ∃ y_ : List (S23), y_ = (([(⟨a0_0, a0_1⟩ : S23), (⟨a1_0, a1_1⟩ : S23)] : List (S23))) := ⟨_, rfl⟩
 replace H : ((deci_all.f k y861).bind fun t864 => (if t864 = 0 then ((deci_size.f a0_0 a0_1).bind fun t865 => ((deci_size.f a1_0 a1_1).bind fun t866 => ((bits_Mul64.f t865 t866).bind fun bt867 => ((deci_power.f k (mx 0 (wrap64 ((wrap64 (a0_1 + a1_1)) - 6)))).bind fun t869 => ((deci_even.f k bt867.1 bt867.2 t869).bind fun bt870 => (if bt870.2 = true then ((deci_form_dec.f k bt870.1 (mn (wrap64 (a0_1 + a1_1)) 6) ((decide (a0_0 < 0)) != (decide (a1_0 < 0)))).bind fun bt872 => (some (bt872.1, bt872.2.1, bt872.2.2))) else (none))))))) else (none))) = some (r1, r2, r3) := by first | (rw [hy861]; with_reducible exact H) | (have H2_ := (Option.bind_some _ _).symm.trans H; rw [hy861]; with_reducible exact H2_) | (have H2_ := (Option.bind_some _ _).symm.trans H; with_reducible exact H2_) | with_reducible exact H | (rw [hy861]; exact H) | exact H
 have Ny861 := am hy861
 clear hy861
 replace H := obe H
 obtain ⟨t864, A3, H⟩ := H
 by_cases c4 : t864 = 0
 ·replace H := ipe c4 H
  obtain ⟨H, c4b0, c4b1⟩ := H
  clear c4
  replace H := obe H
  obtain ⟨t865, A5, H⟩ := H
  replace H := obe H
  obtain ⟨t866, A6, H⟩ := H
  replace H := obe2 H
  obtain ⟨t867, t868, A7, H⟩ := H
  obtain ⟨ji8, hji8⟩ : ∃ j_ : Int, (mx 0 (wrap64 ((wrap64 (a0_1 + a1_1)) - 6))) = j_ := ⟨_, rfl⟩
  replace H : ((deci_power.f k (ji8)).bind fun t869 => ((deci_even.f k t867 t868 t869).bind fun bt870 => (if bt870.2 = true then ((deci_form_dec.f k bt870.1 (mn (wrap64 (a0_1 + a1_1)) 6) ((decide (a0_0 < 0)) != (decide (a1_0 < 0)))).bind fun bt872 => (some (bt872.1, bt872.2.1, bt872.2.2))) else (none)))) = some (r1, r2, r3) := by first | (rw [hji8] at H; exact H) | (simp only [hji8] at H ⊢; exact H)
  (try rw [hji8] at A3)
  (try rw [hji8] at A5)
  (try rw [hji8] at A6)
  (try rw [hji8] at A7)
  (try (have hji8l : 0 ≤ ji8 := by (rw [← hji8]; unfold mx; (repeat' split) <;> omega)))
  (try (have hji8m : 0 ≤ ji8 := by omega))
  have hji8_ : (if 0 < (wrap64 ((wrap64 (a0_1 + a1_1)) - 6)) then (wrap64 ((wrap64 (a0_1 + a1_1)) - 6)) else 0) = ji8 := hji8
  replace H := obe H
  obtain ⟨t869, A9, H⟩ := H
  replace H := obe2 H
  obtain ⟨t870, t871, A10, H⟩ := H
  by_cases c11 : t871 = true
  ·subst c11
   replace H := ift H
   obtain ⟨ji12, hji12⟩ : ∃ j_ : Int, (mn (wrap64 (a0_1 + a1_1)) 6) = j_ := ⟨_, rfl⟩
   replace H : ((deci_form_dec.f k t870 (ji12) ((decide (a0_0 < 0)) != (decide (a1_0 < 0)))).bind fun bt872 => (some (bt872.1, bt872.2.1, bt872.2.2))) = some (r1, r2, r3) := by first | (rw [hji12] at H; exact H) | (simp only [hji12] at H ⊢; exact H)
   (try rw [hji12] at A3)
   (try rw [hji12] at A5)
   (try rw [hji12] at A6)
   (try rw [hji12] at A7)
   (try rw [hji12] at A9)
   (try rw [hji12] at A10)
   (try (have hji12h : ji12 ≤ 6 := by (rw [← hji12]; unfold mn; (repeat' split) <;> omega)))
   (try (have hji12g : ji12 ≤ 64 := by omega))
   have hji12_ : (if 6 < (wrap64 (a0_1 + a1_1)) then 6 else (wrap64 (a0_1 + a1_1))) = ji12 := hji12
   replace H := obe3 H
   obtain ⟨t872, t873, t874, A13, H⟩ := H
   simp only [Option.some.injEq, Prod.mk.injEq] at H
   obtain ⟨rfl, rfl, rfl⟩ := H
   go_enter Tryz.func119, Tryz.ntmps119
   try go_wp2_with (first | ((with_reducible refine gate_dst (N := 2) rfl ?_); refine bev (#[.int .i64 a0_0, .int .i64 a0_1]) 23 ?_; intro gb858 hg w14 hbox hb; have BK858 := am (hbox); have GW858 := gs hg HB; have GE858 := GW858; replace HB := sb HB hb; clear hb hbox hg) | ((with_reducible refine gate_dst (N := 3) rfl ?_); refine bev (#[.int .i64 a1_0, .int .i64 a1_1]) 23 ?_; intro gb859 hg w15 hbox hb; have BK859 := am (hbox); have GW859 := gs hg HB; have GE859 := GW859; replace HB := sb HB hb; have NB858_859 := na hg BK858; have NB859_858 := nb hg BK858; replace BK858 := kb BK858 hb; clear hb hbox hg) | ((with_reducible refine gate_dst (N := 4) rfl ?_); refine bev (#[.int .i64 0, .int .i64 0]) 23 ?_; intro gb860 hg w16 hbox hb; have BK860 := am (hbox); have GW860 := gs hg HB; have GE860 := GW860; replace HB := sb HB hb; have NB858_860 := na hg BK858; have NB860_858 := nb hg BK858; replace BK858 := kb BK858 hb; have NB859_860 := na hg BK859; have NB860_859 := nb hg BK859; replace BK859 := kb BK859 hb; clear hb hbox hg; have hnb17 := NB858_859.out; have hnc17 := NB859_858.out; have hnb18 := NB858_860.out; have hnc18 := NB860_858.out; obtain ⟨Z19_0, Z19_1, F19_0, F19_1⟩ := cz2 BK858.out; have hnb20 := NB859_860.out; have hnc20 := NB860_859.out; obtain ⟨Z21_0, Z21_1, F21_0, F21_1⟩ := cz2 BK859.out) | ((with_reducible refine gate_dst (N := 14) rfl ?_); refine rlit k23 23 ([(⟨a0_0, a0_1⟩ : S23), (⟨a1_0, a1_1⟩ : S23)] : List (S23)) [.int .i64 a0_0, .int .i64 a0_1, .int .i64 a1_0, .int .i64 a1_1] ?_ (Below.refl _ _) (Nat.le_refl _) (Reps.c2 (show Kd.M k23 _ _ _ (⟨a0_0, a0_1⟩ : S23) [.int .i64 a0_0, .int .i64 a0_1] from (k23_mkM _ _ _ (⟨a0_0, a0_1⟩ : S23) )) (Reps.c2 (show Kd.M k23 _ _ _ (⟨a1_0, a1_1⟩ : S23) [.int .i64 a1_0, .int .i64 a1_1] from (k23_mkM _ _ _ (⟨a1_0, a1_1⟩ : S23) )) (Reps.none _ _))); intro v862 w22 ho23 hb hg_ hnew_; clear hg_ hnew_; (first | rw [← Ny861.out] at ho23 | (simp only [Int.reduceToNat] at ho23; rw [← Ny861.out] at ho23)); have HO863 := am (Kd.R_lower (Kd.R_newB (Kd.R_newB (Kd.R_newB ho23 (bk BK858.out)) (bk BK859.out)) (bk BK860.out)) (below_size (bz HB.out))); replace BK858 := kb BK858 hb; replace BK859 := kb BK859 hb; replace BK860 := kb BK860 hb; replace HB := sb HB hb; clear hb ho23; obtain ⟨Ao24, co24, eo24⟩ := Kd.R_slice HO863.out; subst eo24) | ((with_reducible refine gate_callee (f := 43) rfl ?_); refine gl_ (some 15) Tryz.func43 (by kernel_rfl) #[.slice Ao24 y861.length co24] rfl ?_; (with_reducible refine (deci_all.calls k _ _ y861 t864 _ ?side1 ?side2 A3.out).mono ?_); (case side1 => repeat (first | exact (Kd.R_reads' HO863.out).2.2 | (with_reducible refine Kd.C_alloc ?_ _) | (with_reducible refine Kd.C_drewN ?_ _) | (with_reducible refine Kd.C_drew ?_))); (case side2 => exact (Kd.R_reads' HO863.out).2.1); rintro e w25 ⟨rfl, hb⟩; refine ⟨_, rfl, ?_⟩; replace HO863 := am (Kd.R_below (rr HO863.out) hb); replace BK858 := kb BK858 hb; replace BK859 := kb BK859 hb; replace BK860 := kb BK860 hb; replace HB := sb HB hb; clear hb))
   replace HO863 := am (Kd.R_drew HO863.out)
   replace BK858 := am (blk_drew BK858.out)
   replace BK859 := am (blk_drew BK859.out)
   replace BK860 := am (blk_drew BK860.out)
   replace HB := am (below_drew1 HB.out)
   refine start_ (n := 10) (S := fun w' => w'.cell? ⟨gb858, 0, none⟩ = some (.int .i64 a0_0) ∧ w'.cell? ⟨gb858, 1, none⟩ = some (.int .i64 a0_1) ∧ w'.cell? ⟨gb859, 0, none⟩ = some (.int .i64 a1_0) ∧ w'.cell? ⟨gb859, 1, none⟩ = some (.int .i64 a1_1)) (ds := []) (bts0 10) (by kernel_rfl) rfl rfl ⟨(blk_cell BK858.out 0).trans rfl, (blk_cell BK858.out 1).trans rfl, (blk_cell BK859.out 0).trans rfl, (blk_cell BK859.out 1).trans rfl⟩ (fun hHeld => ?_); refine with_tabW deci_Mul.tab4 deci_Mul.bits4 (fun HT_ HW_ => ?_)
   generalize w25.drew = w26 at HO863 BK858 BK859 BK860 HB hHeld ⊢
   refine ta 0 (some 21) (bts 10 1) (take_ofW HT_.out HW_.out (by kernel_rfl)) hHeld ?_
   refine ta 2 (some 23) (bts 10 5) (take_ofW HT_.out HW_.out (by kernel_rfl)) hHeld ?_
   refine one_ (i := 1) (N := some 22) (bts 10 7) rfl rfl (one_of HT_.out (by kernel_rfl)) (by decide) (fun K hK => ?_)
   refine goes_ Tryz.func93 (by kernel_rfl) rfl #[.agg #[.int .i64 a0_0, .int .i64 a0_1]] (by rfl) rfl rfl lz ?_
   with_reducible refine (deci_size.calls a0_0 a0_1 t865 _ A5.out).mono ?_
   rintro e w27 ⟨rfl, hb⟩
   refine ⟨_, rfl, ?_⟩
   replace HO863 := am (Kd.R_below (rr HO863.out) hb)
   replace BK858 := kb BK858 hb
   replace BK859 := kb BK859 hb
   replace BK860 := kb BK860 hb
   replace HB := sb HB hb
   (try clear hb)
   (try clear hb2)
   (try clear hk)
   (try clear hi)
   refine hK.out _ _ ⟨(blk_cell BK858.out 0).trans rfl, (blk_cell BK858.out 1).trans rfl, (blk_cell BK859.out 0).trans rfl, (blk_cell BK859.out 1).trans rfl⟩ (fun hHeld => ?_)
   clear hK K
   refine norm_ (a' := ?_) ?_ ?_
   rotate_left
   ·show Act.put _ (some 22) _ = _
    simp only [Act.put, List.setIfInBounds_toArray, List.set_cons_zero, List.set_cons_succ, i64_w, i32_w]
    rfl
   refine one_ (i := 3) (N := some 24) (bts 10 15) rfl rfl (one_of HT_.out (by kernel_rfl)) (by decide) (fun K hK => ?_)
   refine goes_ Tryz.func93 (by kernel_rfl) rfl #[.agg #[.int .i64 a1_0, .int .i64 a1_1]] (by rfl) rfl rfl lz ?_
   with_reducible refine (deci_size.calls a1_0 a1_1 t866 _ A6.out).mono ?_
   rintro e w28 ⟨rfl, hb⟩
   refine ⟨_, rfl, ?_⟩
   replace HO863 := am (Kd.R_below (rr HO863.out) hb)
   replace BK858 := kb BK858 hb
   replace BK859 := kb BK859 hb
   replace BK860 := kb BK860 hb
   replace HB := sb HB hb
   (try clear hb)
   (try clear hb2)
   (try clear hk)
   (try clear hi)
   refine hK.out _ _ ⟨(blk_cell BK858.out 0).trans rfl, (blk_cell BK858.out 1).trans rfl, (blk_cell BK859.out 0).trans rfl, (blk_cell BK859.out 1).trans rfl⟩ (fun hHeld => ?_)
   clear hK K
   refine norm_ (a' := ?_) ?_ ?_
   rotate_left
   ·show Act.put _ (some 24) _ = _
    simp only [Act.put, List.setIfInBounds_toArray, List.set_cons_zero, List.set_cons_succ, i64_w, i32_w]
    rfl
   refine one_ (i := 4) (N := some 25) (bts 10 31) rfl rfl (one_of HT_.out (by kernel_rfl)) (by decide) (fun K hK => ?_)
   refine goes_ Tryz.func95 (by kernel_rfl) rfl #[.int .u64 t865, .int .u64 t866] (by rfl) rfl rfl lz ?_
   with_reducible refine (bits_Mul64.calls t865 t866 t867 t868 _ A7.out).mono ?_
   rintro e w' ⟨rfl, ⟨nd, rfl⟩⟩
   refine ⟨_, rfl, ?_⟩
   refine hK.out _ _ ⟨(blk_cell BK858.out 0).trans rfl, (blk_cell BK858.out 1).trans rfl, (blk_cell BK859.out 0).trans rfl, (blk_cell BK859.out 1).trans rfl⟩ (fun hHeld => ?_)
   clear hK K
   refine norm_ (a' := ?_) ?_ ?_
   rotate_left
   ·show Act.put _ (some 25) _ = _
    simp only [Act.put, List.setIfInBounds_toArray, List.set_cons_zero, List.set_cons_succ, i64_w, i32_w]
    rfl
   refine pu 5 (some 20) (bts 10 63) (any_of HT_.out (by kernel_rfl)) ?_
   refine pu 6 (some 26) (bts 10 127) (any_of HT_.out (by kernel_rfl)) ?_
   refine pu 7 (some 27) (bts 10 255) (any_of HT_.out (by kernel_rfl)) ?_
   refine pu 8 (some 7) (bts 10 511) (any_of HT_.out (by kernel_rfl)) ?_
   refine pu 9 (some 8) (bts 10 1023) (any_of HT_.out (by kernel_rfl)) ?_
   refine done_ (done_of HT_.out (by kernel_rfl)) ?_
   obtain ⟨Z29_0, Z29_1, F29_0, F29_1⟩ := cz2 BK858.out
   obtain ⟨Z30_0, Z30_1, F30_0, F30_1⟩ := cz2 BK859.out
   try go_wp2_with (first | ((with_reducible refine gate_callee (f := 83) rfl ?_); refine goesL_ (some 39) rfl rfl Tryz.func83 (by kernel_rfl) rfl #[.int .i64 ji8] rfl (by (try simp only [List.map_toArray, List.map_cons, List.map_nil]); first | done | (simp only [hji8]; rfl) | rfl | (simp only [List.length_drop, List.length_take]; rfl)) ?_; (with_reducible refine (deci_power.calls k ji8 t869 _ A9.out).mono ?_); rintro e w' ⟨rfl, ⟨nd, rfl⟩⟩; refine ⟨_, rfl, ?_⟩; (try (rw [drewN_self w28]; generalize hq_ : World.drewN w28 _ = w28; have n0_ : Aside0 (Kd.R k23 23 w28 w.heap.size (fun k_ => k_ ≠ gb858 ∧ k_ ≠ gb859 ∧ k_ ≠ gb860) (.slice Ao24 y861.length co24) y861) := ⟨by rw [← hq_]; exact (by (with_reducible repeat (first | apply Kd.R_alloc | apply Kd.R_drewN | apply Kd.R_drew)); exact Kd.R_mono HO863.out (fun _ hk => ⟨hk.1.1.2, ⟨hk.1.2, hk.2⟩⟩))⟩; have n1_ : Aside0 (w28.heap[gb858]? = some (.cells #[.int .i64 a0_0, .int .i64 a0_1] 23 (0, 0))) := ⟨by rw [← hq_]; exact (bk BK858.out)⟩; have n2_ : Aside0 (w28.heap[gb859]? = some (.cells #[.int .i64 a1_0, .int .i64 a1_1] 23 (0, 0))) := ⟨by rw [← hq_]; exact (bk BK859.out)⟩; have n3_ : Aside0 (w28.heap[gb860]? = some (.cells #[.int .i64 0, .int .i64 0] 23 (0, 0))) := ⟨by rw [← hq_]; exact (bk BK860.out)⟩; have n4_ : Aside0 (Below w.heap.size w w28) := ⟨by rw [← hq_]; exact (bz HB.out)⟩; clear HO863 BK858 BK859 BK860 HB hq_; have HO863 := n0_; have BK858 := n1_; have BK859 := n2_; have BK860 := n3_; have HB := n4_; clear n0_ n1_ n2_ n3_ n4_)); (try (have hcu858_0 : w28.cell? ⟨gb858, 0, none⟩ = some (.int .i64 a0_0) := (blk_cell BK858.out 0).trans rfl)); (try (have hcu858_1 : w28.cell? ⟨gb858, 1, none⟩ = some (.int .i64 a0_1) := (blk_cell BK858.out 1).trans rfl)); (try (have hcu859_0 : w28.cell? ⟨gb859, 0, none⟩ = some (.int .i64 a1_0) := (blk_cell BK859.out 0).trans rfl)); (try (have hcu859_1 : w28.cell? ⟨gb859, 1, none⟩ = some (.int .i64 a1_1) := (blk_cell BK859.out 1).trans rfl)); (try (have hcu860_0 : w28.cell? ⟨gb860, 0, none⟩ = some (.int .i64 0) := (blk_cell BK860.out 0).trans rfl)); (try (have hcu860_1 : w28.cell? ⟨gb860, 1, none⟩ = some (.int .i64 0) := (blk_cell BK860.out 1).trans rfl))) | ((with_reducible refine gate_callee (f := 96) rfl ?_); refine gl_ (some 40) Tryz.func96 (by kernel_rfl) #[.int .u64 t867, .int .u64 t868, .int .u64 t869] rfl ?_; (with_reducible refine (deci_even.calls k t867 t868 t869 t870 true _ A10.out).mono ?_); rintro e w' ⟨rfl, ⟨nd, rfl⟩⟩; refine ⟨_, rfl, ?_⟩; (try (rw [drewN_self w28]; generalize hq_ : World.drewN w28 _ = w28; have n0_ : Aside0 (Kd.R k23 23 w28 w.heap.size (fun k_ => k_ ≠ gb858 ∧ k_ ≠ gb859 ∧ k_ ≠ gb860) (.slice Ao24 y861.length co24) y861) := ⟨by rw [← hq_]; exact (by (with_reducible repeat (first | apply Kd.R_alloc | apply Kd.R_drewN | apply Kd.R_drew)); exact Kd.R_mono HO863.out (fun _ hk => ⟨hk.1.1.2, ⟨hk.1.2, hk.2⟩⟩))⟩; have n1_ : Aside0 (w28.heap[gb858]? = some (.cells #[.int .i64 a0_0, .int .i64 a0_1] 23 (0, 0))) := ⟨by rw [← hq_]; exact (bk BK858.out)⟩; have n2_ : Aside0 (w28.heap[gb859]? = some (.cells #[.int .i64 a1_0, .int .i64 a1_1] 23 (0, 0))) := ⟨by rw [← hq_]; exact (bk BK859.out)⟩; have n3_ : Aside0 (w28.heap[gb860]? = some (.cells #[.int .i64 0, .int .i64 0] 23 (0, 0))) := ⟨by rw [← hq_]; exact (bk BK860.out)⟩; have n4_ : Aside0 (Below w.heap.size w w28) := ⟨by rw [← hq_]; exact (bz HB.out)⟩; clear HO863 BK858 BK859 BK860 HB hq_; have HO863 := n0_; have BK858 := n1_; have BK859 := n2_; have BK860 := n3_; have HB := n4_; clear n0_ n1_ n2_ n3_ n4_)); (try (have hcu858_0 : w28.cell? ⟨gb858, 0, none⟩ = some (.int .i64 a0_0) := (blk_cell BK858.out 0).trans rfl)); (try (have hcu858_1 : w28.cell? ⟨gb858, 1, none⟩ = some (.int .i64 a0_1) := (blk_cell BK858.out 1).trans rfl)); (try (have hcu859_0 : w28.cell? ⟨gb859, 0, none⟩ = some (.int .i64 a1_0) := (blk_cell BK859.out 0).trans rfl)); (try (have hcu859_1 : w28.cell? ⟨gb859, 1, none⟩ = some (.int .i64 a1_1) := (blk_cell BK859.out 1).trans rfl)); (try (have hcu860_0 : w28.cell? ⟨gb860, 0, none⟩ = some (.int .i64 0) := (blk_cell BK860.out 0).trans rfl)); (try (have hcu860_1 : w28.cell? ⟨gb860, 1, none⟩ = some (.int .i64 0) := (blk_cell BK860.out 1).trans rfl))) | ((with_reducible refine gate_callee (f := 45) rfl ?_); refine goesL_ (some 57) rfl rfl Tryz.func45 (by kernel_rfl) rfl #[.agg #[.int .u64 t870, .int .i64 ji12], .bool ((decide (a0_0 < 0)) != (decide (a1_0 < 0)))] rfl (by (try simp only [List.map_toArray, List.map_cons, List.map_nil]); first | done | (simp only [hji12]; rfl) | rfl | (simp only [List.length_drop, List.length_take]; rfl)) ?_; (with_reducible refine (deci_form_dec.calls k t870 ji12 ((decide (a0_0 < 0)) != (decide (a1_0 < 0))) t872 t873 t874 _ A13.out).mono ?_); rintro e w31 ⟨rfl, hb⟩; refine ⟨_, rfl, ?_⟩; replace HO863 := am (Kd.R_below (rr HO863.out) hb); replace BK858 := kb BK858 hb; replace BK859 := kb BK859 hb; replace BK860 := kb BK860 hb; replace HB := sb HB hb; clear hb; obtain ⟨Z32_0, Z32_1, F32_0, F32_1⟩ := cz2 BK860.out))
   refine bodyPost_ret (results_ct rfl _ _ gb860 23 #[.int .i64 t872, .int .i64 t873] (0, 0) _ rfl (bp BK860.out) Tryz.underlying23 rfl (by kernel_rfl)) rfl ?_
   exact ⟨by first | rfl | (simp [errW_none, errW_some] <;> rfl) | (simp only [← hji8, ← hji12]; first | rfl | (simp [errW_none, errW_some] <;> rfl)) | (simp [*, errW_none, errW_some] <;> rfl), bz HB.out⟩
  replace c11 := Bool.eq_false_iff.mpr c11
  subst c11
  replace H := iff_ H
  exact absurd H (by simp)
 rw [if_neg c4] at H
 exact absurd H (by simp)
end Go.Proofs.YtgkemhgihbfmmaaGreatDoor.PA
end
section
namespace Go.Proofs.YtgkemhgihbfmmaaGreatDoor.PA
open Go.RowKit Go.Proofs.YtgkemhgihbfmmaaGreatDoorW.PrintWords Go.Proofs.YtgkemhgihbfmmaaGreatDoorW.PrintLast Go.Proofs.YtgkemhgihbfmmaaGreatDoorW.PrintMore
attribute [local go_sem] max2_int min2_int max_two min_two max_three min_three max_four min_four isSome_set str_gtr
set_option linter.unusedVariables false
set_option linter.unusedSimpArgs false
def calc_reckon.j0 : Nat → Int → Bool → Int → Int → Int → ByteArray → Int → Int → Int → Int → ByteArray → Int → Option (Int × Int × Int × ByteArray × Int)
 | 0, _, _, _, _, _, _, _, _, _, _, _, _ => none
 | k + 1, x0, x16, x876000, x876001, x876002, x876003, x876004, x877000, x877001, x877002, x877003, x877004 => if x16 = true then (none) else (if x0 = 5 then (none) else (if x0 = 4 then (none) else (if x0 = 6 then ((deci_Mul.f k x876001 x876002 x877001 x877002).bind fun bt879 => (if bt879.2.2 = 0 then (some (1, bt879.1, bt879.2.1, (⟨#[]⟩ : ByteArray), 0)) else (none))) else (none))))
def calc_reckon.f (k : Nat) (a0 a1_0 a1_1 a1_2 : Int) (a1_3 : ByteArray) (a1_4 a2_0 a2_1 a2_2 : Int) (a2_3 : ByteArray) (a2_4 : Int) : Option (Int × Int × Int × ByteArray × Int) := if a1_0 = 1 then (calc_reckon.j0 k a0 (a2_0 != 1) a1_0 a1_1 a1_2 a1_3 a1_4 a2_0 a2_1 a2_2 a2_3 a2_4) else (calc_reckon.j0 k a0 true a1_0 a1_1 a1_2 a1_3 a1_4 a2_0 a2_1 a2_2 a2_3 a2_4)
theorem calc_reckon.mono_l : ∀ k, (∀ y0 y1 y2 y3 y4 y5 y6 y7 y8 y9 y10 y11, LeO (calc_reckon.j0 k y0 y1 y2 y3 y4 y5 y6 y7 y8 y9 y10 y11) (calc_reckon.j0 (k + 1) y0 y1 y2 y3 y4 y5 y6 y7 y8 y9 y10 y11))
 | 0 => fun _ _ _ _ _ _ _ _ _ _ _ _ r h => by simp [calc_reckon.j0] at h
 | k + 1 => by
  have ih0 := calc_reckon.mono_l k
  ·intro y0 y1 y2 y3 y4 y5 y6 y7 y8 y9 y10 y11
   unfold calc_reckon.j0
   have q0 := @deci_Mul.mono; exact lmo
theorem calc_reckon.mono : ∀ a0 a1 a2 a3 a4 a5 a6 a7 a8 a9 a10 k, LeO (calc_reckon.f k a0 a1 a2 a3 a4 a5 a6 a7 a8 a9 a10) (calc_reckon.f (k + 1) a0 a1 a2 a3 a4 a5 a6 a7 a8 a9 a10) := by
 intro a0 a1 a2 a3 a4 a5 a6 a7 a8 a9 a10 k
 have ih0 := calc_reckon.mono_l k
 unfold calc_reckon.f
 have q0 := @deci_Mul.mono; exact lmo
set_option maxHeartbeats 8000000 in
set_option maxRecDepth 100000 in
theorem calc_reckon.calls (k : Nat) (a0 a1_0 a1_1 a1_2 : Int) (a1_3 : ByteArray) (a1_4 a2_0 a2_1 a2_2 : Int) (a2_3 : ByteArray) (a2_4 r1 r2 r3 : Int) (r4 : ByteArray) (r5 : Int) (w : World) (hT : Tabs w) (h : calc_reckon.f k a0 a1_0 a1_1 a1_2 a1_3 a1_4 a2_0 a2_1 a2_2 a2_3 a2_4 = some (r1, r2, r3, r4, r5)) :
  Calls Tryz.prog 79 #[.int .i64 a0, .agg #[.int .i64 a1_0, .int .i64 a1_1, .int .i64 a1_2, .string a1_3, .int .i64 a1_4], .agg #[.int .i64 a2_0, .int .i64 a2_1, .int .i64 a2_2, .string a2_3, .int .i64 a2_4]] w fun e w' => e = .returned (.agg #[.int .i64 r1, .int .i64 r2, .int .i64 r3, .string r4, .int .i64 r5]) ∧ Below w.heap.size w w' := by
 have hu25 := Tryz.underlying25
 have hu23 := Tryz.underlying23
 have HT := am hT; have HZ := am hT.null.pos; obtain ⟨hn0_, hn1_, hn2_, hn3_, hn4_⟩ := hT.null
 clear hT
 have HB := am (Below.refl w.heap.size w)
 have H : (if a1_0 = 1 then (calc_reckon.j0 k a0 (a2_0 != 1) a1_0 a1_1 a1_2 a1_3 a1_4 a2_0 a2_1 a2_2 a2_3 a2_4) else (calc_reckon.j0 k a0 true a1_0 a1_1 a1_2 a1_3 a1_4 a2_0 a2_1 a2_2 a2_3 a2_4)) = some (r1, r2, r3, r4, r5) := h
 clear h
 have HC4 := am H
 clear H
 go_enter Tryz.func79, Tryz.ntmps79
 go_upto_region 1 with (first | ((with_reducible refine gate_dst (N := 4) rfl ?_); refine bev (#[.int .i64 a1_0, .int .i64 a1_1, .int .i64 a1_2, .string a1_3, .int .i64 a1_4]) 25 ?_; intro gb875 hg w5 hbox hb; have BK875 := am (hbox); have GW875 := gs hg HB; have hz875 := ne0 HZ.out GW875.out; have GE875 := GW875; replace HB := sb HB hb; obtain ⟨_, _, _, _, _⟩ := nz HT HB; clear hb hbox hg) | ((with_reducible refine gate_dst (N := 5) rfl ?_); refine bev (#[.int .i64 a2_0, .int .i64 a2_1, .int .i64 a2_2, .string a2_3, .int .i64 a2_4]) 25 ?_; intro gb876 hg w6 hbox hb; have BK876 := am (hbox); have GW876 := gs hg HB; have hz876 := ne0 HZ.out GW876.out; have GE876 := GW876; replace HB := sb HB hb; obtain ⟨_, _, _, _, _⟩ := nz HT HB; have NB875_876 := na hg BK875; have NB876_875 := nb hg BK875; replace BK875 := kb BK875 hb; clear hb hbox hg) | ((with_reducible refine gate_dst (N := 6) rfl ?_); refine bev (#[.int .i64 0, .int .i64 0, .int .i64 0, .string (⟨#[]⟩ : ByteArray), .int .i64 0]) 25 ?_; intro gb877 hg w7 hbox hb; have BK877 := am (hbox); have GW877 := gs hg HB; have hz877 := ne0 HZ.out GW877.out; have GE877 := GW877; replace HB := sb HB hb; obtain ⟨_, _, _, _, _⟩ := nz HT HB; have NB875_877 := na hg BK875; have NB877_875 := nb hg BK875; replace BK875 := kb BK875 hb; have NB876_877 := na hg BK876; have NB877_876 := nb hg BK876; replace BK876 := kb BK876 hb; clear hb hbox hg))
 (try simp only [Act.put, List.setIfInBounds_toArray, List.set_cons_zero, List.set_cons_succ])
 go_cut [16] (fun v16 wc => ∃ (kq : Nat) (x16_3 : Bool), v16 = .bool x16_3 ∧ Aside0 (calc_reckon.j0 kq a0 x16_3 a1_0 a1_1 a1_2 a1_3 a1_4 a2_0 a2_1 a2_2 a2_3 a2_4 = some (r1, r2, r3, r4, r5)) ∧ Aside0 (kq ≤ k) ∧ Aside0 (wc.heap[gb875]? = some (.cells #[.int .i64 a1_0, .int .i64 a1_1, .int .i64 a1_2, .string a1_3, .int .i64 a1_4] 25 (0, 0))) ∧ Aside0 (wc.heap[gb876]? = some (.cells #[.int .i64 a2_0, .int .i64 a2_1, .int .i64 a2_2, .string a2_3, .int .i64 a2_4] 25 (0, 0))) ∧ Aside0 (wc.heap[gb877]? = some (.cells #[.int .i64 0, .int .i64 0, .int .i64 0, .string (⟨#[]⟩ : ByteArray), .int .i64 0] 25 (0, 0))) ∧ Aside0 (Below w.heap.size w wc))
 case first =>
  have H := HC4.out
  clear HC4
  by_cases c8 : a1_0 = 1
  ·replace H := ipe c8 H
   obtain ⟨H, c8b0, c8b1⟩ := H
   clear c8
   (first | rw [c8b0] | (simp only [i64_w, i32_w]; rw [c8b0]) | skip)
   have H' := am H
   clear H
   have hnb9 := NB875_876.out
   have hnc9 := NB876_875.out
   have hnb10 := NB875_877.out
   have hnc10 := NB877_875.out
   obtain ⟨Z11_0, Z11_1, Z11_2, Z11_3, Z11_4, F11_0, F11_1, F11_2, F11_3, F11_4⟩ := cz5 BK875.out
   have hnb12 := NB876_877.out
   have hnc12 := NB877_876.out
   obtain ⟨Z13_0, Z13_1, Z13_2, Z13_3, Z13_4, F13_0, F13_1, F13_2, F13_3, F13_4⟩ := cz5 BK876.out
   go_wp2
   go_meet
   case rel => exact ⟨_, ((a2_0 != 1)), sz, H', ⟨oz⟩, ⟨bk BK875.out⟩, ⟨bk BK876.out⟩, ⟨bk BK877.out⟩, ⟨bz HB.out⟩⟩
  replace H := ine c8 H
  obtain ⟨H, c8b0, c8b1⟩ := H
  (first | rw [c8b0] | (simp only [i64_w, i32_w]; rw [c8b0]) | skip)
  have H' := am H
  clear H
  have hnb14 := NB875_876.out
  have hnc14 := NB876_875.out
  have hnb15 := NB875_877.out
  have hnc15 := NB877_875.out
  obtain ⟨Z16_0, Z16_1, Z16_2, Z16_3, Z16_4, F16_0, F16_1, F16_2, F16_3, F16_4⟩ := cz5 BK875.out
  go_wp2
  go_meet
  case rel => exact ⟨_, (true), sz, H', ⟨oz⟩, ⟨bk BK875.out⟩, ⟨bk BK876.out⟩, ⟨bk BK877.out⟩, ⟨bz HB.out⟩⟩
 case rest =>
  clear HC4
  skip
  obtain ⟨kq, x16_3, rfl, HA, HJ3, BK875, BK876, BK877, HB⟩ := hcut; obtain ⟨_, _, _, _, _⟩ := nz HT HB
  cases kq with
  | zero => exact absurd HA.out (by simp [calc_reckon.j0])
  | succ kj3 =>
   have H := HA.out
   clear HA
   simp only [calc_reckon.j0] at H
   by_cases c17 : x16_3 = true
   ·subst c17
    (try simp only [Bool.not_true, Bool.not_false])
    replace H := ift H
    exact absurd H (by simp)
   replace c17 := Bool.eq_false_iff.mpr c17
   subst c17
   (try simp only [Bool.not_true, Bool.not_false])
   replace H := iff_ H
   have HC18 := am H
   clear H
   go_upto_if 19 with (first | ((with_reducible refine gate_dst (N := 7) rfl ?_); refine bev (#[.int .i64 0, .int .i64 0]) 23 ?_; intro gb878 hg w19 hbox hb; have BK878 := am (hbox); have GW878 := gs hg HB; have hz878 := ne0 HZ.out GW878.out; have GE878 := GW878; replace HB := sb HB hb; obtain ⟨_, _, _, _, _⟩ := nz HT HB; have NB875_878 := na hg BK875; have NB878_875 := nb hg BK875; replace BK875 := kb BK875 hb; have NB876_878 := na hg BK876; have NB878_876 := nb hg BK876; replace BK876 := kb BK876 hb; have NB877_878 := na hg BK877; have NB878_877 := nb hg BK877; replace BK877 := kb BK877 hb; clear hb hbox hg))
   (try simp only [Act.put, List.setIfInBounds_toArray, List.set_cons_zero, List.set_cons_succ])
   have H := HC18.out
   clear HC18
   by_cases c20 : a0 = 5
   ·replace H := ipe c20 H
    obtain ⟨H, c20b0, c20b1⟩ := H
    clear c20
    (first | rw [c20b0] | (simp only [i64_w, i32_w]; rw [c20b0]) | skip)
    exact absurd H (by simp)
   replace H := ine c20 H
   obtain ⟨H, c20b0, c20b1⟩ := H
   (first | rw [c20b0] | (simp only [i64_w, i32_w]; rw [c20b0]) | skip)
   by_cases c21 : a0 = 4
   ·replace H := ipe c21 H
    obtain ⟨H, c21b0, c21b1⟩ := H
    clear c21
    exact absurd H (by simp)
   replace H := ine c21 H
   obtain ⟨H, c21b0, c21b1⟩ := H
   by_cases c22 : a0 = 6
   ·replace H := ipe c22 H
    obtain ⟨H, c22b0, c22b1⟩ := H
    clear c22
    replace H := obe3 H
    obtain ⟨t879, t880, t881, A23, H⟩ := H
    by_cases c24 : t881 = 0
    ·replace H := ipe c24 H
     obtain ⟨H, c24b0, c24b1⟩ := H
     clear c24
     simp only [Option.some.injEq, Prod.mk.injEq] at H
     obtain ⟨rfl, rfl, rfl, rfl, rfl⟩ := H
     have hnb25 := NB875_876.out
     have hnc25 := NB876_875.out
     have hnb26 := NB875_877.out
     have hnc26 := NB877_875.out
     have hnb27 := NB875_878.out
     have hnc27 := NB878_875.out
     obtain ⟨Z28_0, Z28_1, Z28_2, Z28_3, Z28_4, F28_0, F28_1, F28_2, F28_3, F28_4⟩ := cz5 BK875.out
     have hnb29 := NB876_877.out
     have hnc29 := NB877_876.out
     have hnb30 := NB876_878.out
     have hnc30 := NB878_876.out
     obtain ⟨Z31_0, Z31_1, Z31_2, Z31_3, Z31_4, F31_0, F31_1, F31_2, F31_3, F31_4⟩ := cz5 BK876.out
     go_wp2_with (first | ((with_reducible refine gate_callee (f := 119) rfl ?_); refine gl_ (some 45) Tryz.func119 (by kernel_rfl) #[.agg #[.int .i64 a1_1, .int .i64 a1_2], .agg #[.int .i64 a2_1, .int .i64 a2_2]] rfl ?_; (with_reducible refine (deci_Mul.calls kj3 a1_1 a1_2 a2_1 a2_2 t879 t880 t881 _ A23.out).mono ?_); rintro e w32 ⟨rfl, hb⟩; refine ⟨_, rfl, ?_⟩; replace BK875 := kb BK875 hb; replace BK876 := kb BK876 hb; replace BK877 := kb BK877 hb; replace BK878 := kb BK878 hb; replace HB := sb HB hb; obtain ⟨_, _, _, _, _⟩ := nz HT HB; clear hb; have hnb33 := NB878_877.out; have hnc33 := NB877_878.out; obtain ⟨Z34_0, Z34_1, F34_0, F34_1⟩ := cz2 BK878.out; obtain ⟨Z35_0, Z35_1, Z35_2, Z35_3, Z35_4, F35_0, F35_1, F35_2, F35_3, F35_4⟩ := cz5 BK877.out))
     refine bodyPost_ret (results_cell_row rfl _ _ gb877 25 #[.int .i64 1, .int .i64 t879, .int .i64 t880, .string (⟨#[]⟩ : ByteArray), .int .i64 0] (0, 0) _ rfl (bp BK877.out) Tryz.underlying25 rfl (by kernel_rfl)) rfl ?_
     exact ⟨az, bz HB.out⟩
    rw [if_neg c24] at H
    exact absurd H (by simp)
   replace H := ine c22 H
   obtain ⟨H, c22b0, c22b1⟩ := H
   exact absurd H (by simp)
end Go.Proofs.YtgkemhgihbfmmaaGreatDoor.PA
end
section
namespace Go.Proofs.YtgkemhgihbfmmaaGreatDoor.PA
open Go.RowKit Go.Proofs.YtgkemhgihbfmmaaGreatDoorW.PrintWords Go.Proofs.YtgkemhgihbfmmaaGreatDoorW.PrintLast Go.Proofs.YtgkemhgihbfmmaaGreatDoorW.PrintMore
abbrev cells27 (x : S27) : Array Value := #[.string x.f0, .int .i64 x.f1.f0, .int .i64 x.f1.f1.f0, .int .i64 x.f1.f1.f1, .string x.f1.f2, .int .i64 x.f1.f3]
def fnd (p : S27 → Option Bool) : List S27 → Nat → Option Int
  | [], _ => some (-1)
  | y :: t, i => (p y).bind fun b => if b = true then some (i : Int) else fnd p t (i + 1)
def Gives27 (g : Nat) (lb : Array Value) (p : S27 → Option Bool) (w : World) : Prop := ∀ (W : World) (x : S27) (b : Bool), Below w.heap.size w W → p x = some b → Calls Tryz.prog g (#[.agg (cells27 x)] ++ lb) W fun e w' => e = .returned (.bool b) ∧ Below w.heap.size w w'
theorem drop_at27 {l : List S27} {i : Nat} (h : i < l.length) : l.drop i = rd_T27 l (i : Int) :: l.drop (i + 1) := by
  rw [List.drop_eq_getElem_cons h]
  congr 1
  show _ = l.getD (Int.toNat (i : Int)) z27
  rw [Int.toNat_natCast, List.getD_eq_getElem?_getD, List.getElem?_eq_getElem h, Option.getD_some]
set_option maxHeartbeats 4000000 in
set_option maxRecDepth 100000 in
theorem idx27s (g : Nat) (lb : Array Value) (p : S27 → Option Bool) (eg : ∀ args w, (callFunc g args).run Tryz.prog w = .ok (.enter g args) w) (l : List S27) (A0 : Option Addr) (c0 : Nat) (r : Int) (w : World) (hC : Kd.C k27 w A0 l.length l) (hp : Gives27 g lb p w) (hbig : l.length < 4611686018427387904) (h : fnd p l 0 = some r) :
    Calls Tryz.prog 76 #[.slice A0 l.length c0, .func (.func g) #[] lb] w fun e w' => e = .returned (.int .i64 r) ∧ Below w.heap.size w w' := by
  have hu27 := Tryz.underlying27
  have H0 : Aside0 (fnd p (l.drop 0) 0 = some r) := ⟨h⟩
  have HC := Aside0.mk hC
  clear h hC
  go_enter Tryz.func76, Tryz.ntmps76
  go_wp2
  go_loopg [5, 8] l.length (fun gg _ s8 wr => ∃ (kk : Nat), kk + gg = l.length ∧ s8 = .int .i64 kk ∧ Aside0 (fnd p (l.drop kk) kk = some r) ∧ Aside0 (Below w.heap.size w wr))
  case atStart => exact ⟨0, Nat.zero_add _, rfl, H0, ⟨Below.refl _ _⟩⟩
  case round =>
    obtain ⟨kk, hkg, rfl, HA, HB1⟩ := hrel
    cases gk with
    | zero =>
      have d1 : decide ((kk : Int) < (l.length : Int)) = false := decide_eq_false (by omega)
      have hA := HA.out
      rw [List.drop_eq_nil_of_le (by omega)] at hA
      simp only [fnd, Option.some.injEq] at hA
      subst hA
      go_wp2
      go_ret
      exact ⟨rfl, HB1.out⟩
    | succ n =>
      have d1 : decide ((kk : Int) < (l.length : Int)) = true := decide_eq_true (by omega)
      have p1 : (0 : Int) ≤ (kk : Int) := by omega
      have q1 : (kk : Int) < (l.length : Int) := by omega
      obtain ⟨ad, e1, h0, h1, h2, h3, h4, h5⟩ := at_T27 HC.out (kk : Int) p1 q1
      cases e1
      have hA := HA.out
      rw [drop_at27 (by omega)] at hA
      generalize hy : rd_T27 l (kk : Int) = y at hA h0 h1 h2 h3 h4 h5
      clear hy
      have h0 : wr.cell? (ad.add (kk * 6)) = some (.string y.f0) := pw_cell_below HB1.out h0
      have h1 : wr.cell? ⟨(ad.add (kk * 6)).block, (ad.add (kk * 6)).off + 1, none⟩ = some (.int .i64 y.f1.f0) := pw_cell_below HB1.out h1
      have h2 : wr.cell? ⟨(ad.add (kk * 6)).block, (ad.add (kk * 6)).off + 2, none⟩ = some (.int .i64 y.f1.f1.f0) := pw_cell_below HB1.out h2
      have h3 : wr.cell? ⟨(ad.add (kk * 6)).block, (ad.add (kk * 6)).off + 3, none⟩ = some (.int .i64 y.f1.f1.f1) := pw_cell_below HB1.out h3
      have h4 : wr.cell? ⟨(ad.add (kk * 6)).block, (ad.add (kk * 6)).off + 4, none⟩ = some (.string y.f1.f2) := pw_cell_below HB1.out h4
      have h5 : wr.cell? ⟨(ad.add (kk * 6)).block, (ad.add (kk * 6)).off + 5, none⟩ = some (.int .i64 y.f1.f3) := pw_cell_below HB1.out h5
      have i1 := eq_true p1
      have i2 := eq_true q1
      have i3 : (kk < l.length) = True := eq_true (by omega)
      simp only [fnd] at hA
      replace hA := Option.bind_eq_some_iff.mp hA
      obtain ⟨b1, hIs, hA⟩ := hA
      have cI := hp wr y b1 HB1.out hIs
      have HA2 := Aside0.mk hA
      clear hA hIs hp
      cases b1 with
      | false =>
        have hr := HA2.out
        simp only [Bool.false_eq_true, if_false] at hr
        have HA3 := Aside0.mk hr
        clear hr
        go_wp2_with (go_at_fn g; refine cI.mono ?_; rintro e w' ⟨rfl, hb⟩)
        go_roundg n
        case measure => omega
        case rel => exact ⟨kk + 1, by omega, by go_num, HA3, ⟨hb⟩⟩
      | true =>
        have hr := HA2.out
        simp only [if_true, Option.some.injEq] at hr
        subst hr
        go_wp2_with (go_at_fn g; refine cI.mono ?_; rintro e w' ⟨rfl, hb⟩)
        go_ret
        exact ⟨rfl, hb⟩
set_option maxHeartbeats 4000000 in
set_option maxRecDepth 100000 in
theorem idx27b (g : Nat) (lb : Array Value) (p : S27 → Option Bool) (eg : ∀ args w, (callFunc g args).run Tryz.prog w = .ok (.enter g args) w) (l : List S27) (A0 : Option Addr) (c0 : Nat) (r : Int) (w : World) (hC : Kd.C k27 w A0 l.length l) (hp : Gives27 g lb p w) (hbig : l.length < 4611686018427387904) (h : fnd p l 0 = some r) :
    Calls Tryz.prog 69 #[.slice A0 l.length c0, .func (.func g) #[] lb] w fun e w' => e = .returned (.int .i64 r) ∧ Below w.heap.size w w' := by
  have hu27 := Tryz.underlying27
  have H0 : Aside0 (fnd p (l.drop 0) 0 = some r) := ⟨h⟩
  have HC := Aside0.mk hC
  clear h hC
  go_enter Tryz.func69, Tryz.ntmps69
  go_wp2
  go_loopg [5, 8] l.length (fun gg _ s8 wr => ∃ (kk : Nat), kk + gg = l.length ∧ s8 = .int .i64 kk ∧ Aside0 (fnd p (l.drop kk) kk = some r) ∧ Aside0 (Below w.heap.size w wr))
  case atStart => exact ⟨0, Nat.zero_add _, rfl, H0, ⟨Below.refl _ _⟩⟩
  case round =>
    obtain ⟨kk, hkg, rfl, HA, HB1⟩ := hrel
    cases gk with
    | zero =>
      have d1 : decide ((kk : Int) < (l.length : Int)) = false := decide_eq_false (by omega)
      have hA := HA.out
      rw [List.drop_eq_nil_of_le (by omega)] at hA
      simp only [fnd, Option.some.injEq] at hA
      subst hA
      go_wp2
      go_ret
      exact ⟨rfl, HB1.out⟩
    | succ n =>
      have d1 : decide ((kk : Int) < (l.length : Int)) = true := decide_eq_true (by omega)
      have p1 : (0 : Int) ≤ (kk : Int) := by omega
      have q1 : (kk : Int) < (l.length : Int) := by omega
      obtain ⟨ad, e1, h0, h1, h2, h3, h4, h5⟩ := at_T27 HC.out (kk : Int) p1 q1
      cases e1
      have hA := HA.out
      rw [drop_at27 (by omega)] at hA
      generalize hy : rd_T27 l (kk : Int) = y at hA h0 h1 h2 h3 h4 h5
      clear hy
      have h0 : wr.cell? (ad.add (kk * 6)) = some (.string y.f0) := pw_cell_below HB1.out h0
      have h1 : wr.cell? ⟨(ad.add (kk * 6)).block, (ad.add (kk * 6)).off + 1, none⟩ = some (.int .i64 y.f1.f0) := pw_cell_below HB1.out h1
      have h2 : wr.cell? ⟨(ad.add (kk * 6)).block, (ad.add (kk * 6)).off + 2, none⟩ = some (.int .i64 y.f1.f1.f0) := pw_cell_below HB1.out h2
      have h3 : wr.cell? ⟨(ad.add (kk * 6)).block, (ad.add (kk * 6)).off + 3, none⟩ = some (.int .i64 y.f1.f1.f1) := pw_cell_below HB1.out h3
      have h4 : wr.cell? ⟨(ad.add (kk * 6)).block, (ad.add (kk * 6)).off + 4, none⟩ = some (.string y.f1.f2) := pw_cell_below HB1.out h4
      have h5 : wr.cell? ⟨(ad.add (kk * 6)).block, (ad.add (kk * 6)).off + 5, none⟩ = some (.int .i64 y.f1.f3) := pw_cell_below HB1.out h5
      have i1 := eq_true p1
      have i2 := eq_true q1
      have i3 : (kk < l.length) = True := eq_true (by omega)
      simp only [fnd] at hA
      replace hA := Option.bind_eq_some_iff.mp hA
      obtain ⟨b1, hIs, hA⟩ := hA
      have cI := hp wr y b1 HB1.out hIs
      have HA2 := Aside0.mk hA
      clear hA hIs hp
      cases b1 with
      | false =>
        have hr := HA2.out
        simp only [Bool.false_eq_true, if_false] at hr
        have HA3 := Aside0.mk hr
        clear hr
        go_wp2_with (go_at_fn g; refine cI.mono ?_; rintro e w' ⟨rfl, hb⟩)
        go_roundg n
        case measure => omega
        case rel => exact ⟨kk + 1, by omega, by go_num, HA3, ⟨hb⟩⟩
      | true =>
        have hr := HA2.out
        simp only [if_true, Option.some.injEq] at hr
        subst hr
        go_wp2_with (go_at_fn g; refine cI.mono ?_; rintro e w' ⟨rfl, hb⟩)
        go_ret
        exact ⟨rfl, hb⟩
def standin_IndexName.f (l0 : List S27) (_a0 _a1 _a2 _a3 : Int) (_a4 : ByteArray) (_a5 : Int) (a6 : ByteArray) (_l7 : List S31) : Option Int := if l0.length < 4611686018427387904 then fnd (fun y => some (y.f0.toList == a6.toList)) l0 0 else none
set_option maxHeartbeats 4000000 in
set_option maxRecDepth 100000 in
theorem gives77 (gx : Nat) (a1_0 a1_1 a1_2 a1_3 : Int) (a1_4 : ByteArray) (a1_5 : Int) (a1_6 : ByteArray) (v : Value) (w : World) (hX : w.heap[gx]? = some (.cells #[.int .i64 a1_0, .int .i64 a1_1, .int .i64 a1_2, .int .i64 a1_3, .string a1_4, .int .i64 a1_5, .string a1_6, v] 31 (0, 0))) :
    Gives27 77 #[.pointer (some ⟨gx, 0, none⟩)] (fun y => some (y.f0.toList == a1_6.toList)) w := fun W x b hb hp => by
  show Calls Tryz.prog 77 #[.agg (cells27 x), .pointer (some ⟨gx, 0, none⟩)] W _
  have hXW := (hb.block gx (blk_lt hX)).trans hX
  obtain rfl := Option.some.inj hp
  have HB := Aside0.mk hb
  have HX := Aside0.mk hXW
  have hu27 := Tryz.underlying27
  have hu31 := Tryz.underlying31
  clear hb hXW hX hp
  go_enter Tryz.func77, Tryz.ntmps77
  go_wp2_with ((with_reducible refine gate_dst (N := 2) rfl ?_); refine bev (cells27 x) 27 ?_; intro gb hgb w1 hbox hb1
               have HB1 := Aside0.mk (HB.out.trans (hb1.mono HB.out.size)); have x6 : w1.cell? ⟨gx, 6, none⟩ = some (.string a1_6) := (blk_cell (blk_below HX.out hb1) 6).trans rfl; have y0 : w1.cell? ⟨gb, 0, none⟩ = some (.string x.f0) := (blk_cell hbox 0).trans rfl
               clear hgb hbox hb1)
  go_ret
  exact ⟨rfl, HB1.out⟩
theorem standin_IndexName.calls (A0 : Option Addr) (c0 : Nat) (l0 : List S27) (a1_0 a1_1 a1_2 a1_3 : Int) (a1_4 : ByteArray) (a1_5 : Int) (a1_6 : ByteArray) (A1_7 : Option Addr) (c1_7 : Nat) (l1_7 : List S31) (r : Int) (w : World) (hr0 : Kd.C k27 w A0 l0.length l0) (hc0 : l0.length ≤ c0) (hr1_7 : Kd.C k31 w A1_7 l1_7.length l1_7) (hc1_7 : l1_7.length ≤ c1_7)
    (gx : Nat) (hX : w.heap[gx]? = some (.cells #[.int .i64 a1_0, .int .i64 a1_1, .int .i64 a1_2, .int .i64 a1_3, .string a1_4, .int .i64 a1_5, .string a1_6, .slice A1_7 l1_7.length c1_7] 31 (0, 0))) (h : standin_IndexName.f l0 a1_0 a1_1 a1_2 a1_3 a1_4 a1_5 a1_6 l1_7 = some r) :
    Calls Tryz.prog 76 #[.slice A0 l0.length c0, .func (.func 77) #[] #[.pointer (some ⟨gx, 0, none⟩)]] w fun e w' => e = .returned (.int .i64 r) ∧ Below w.heap.size w w' := by
  unfold standin_IndexName.f at h
  split at h
  · rename_i hbig
    exact idx27s 77 _ _ (enters_of Tryz.func77 (by kernel_rfl) rfl) l0 A0 c0 r w hr0 (gives77 gx a1_0 a1_1 a1_2 a1_3 a1_4 a1_5 a1_6 _ w hX) hbig h
  · cases h
set_option maxHeartbeats 4000000 in
set_option maxRecDepth 100000 in
theorem has27 (g : Nat) (lb : Array Value) (p : S27 → Option Bool) (eg : ∀ args w, (callFunc g args).run Tryz.prog w = .ok (.enter g args) w) (l : List S27) (A0 : Option Addr) (c0 : Nat) (r : Int) (w : World) (hC : Kd.C k27 w A0 l.length l) (hp : Gives27 g lb p w) (hbig : l.length < 4611686018427387904) (h : fnd p l 0 = some r) :
    Calls Tryz.prog 36 #[.slice A0 l.length c0, .func (.func g) #[] lb] w fun e w' => e = .returned (.bool (decide (0 ≤ r))) ∧ Below w.heap.size w w' := by
  have cI := idx27b g lb p eg l A0 c0 r w hC hp hbig h
  clear hC hp hbig h eg
  go_enter Tryz.func36, Tryz.ntmps36
  go_wp2_with (go_at_call 69; refine cI.mono ?_; rintro e w' ⟨rfl, hb⟩)
  go_ret
  exact ⟨rfl, hb⟩
set_option maxHeartbeats 4000000 in
set_option maxRecDepth 100000 in
theorem gives37 (k : Nat) (w : World) (hT : Tabs w) : Gives27 37 #[] (fun y => (value_Sound.f k y.f1.f0 y.f1.f1.f0 y.f1.f1.f1 y.f1.f2 y.f1.f3).bind fun ok => some (!ok)) w := fun W x b hb hp => by
  show Calls Tryz.prog 37 #[.agg (cells27 x)] W _
  obtain ⟨ok, hv, hp⟩ := Option.bind_eq_some_iff.mp hp
  obtain rfl := Option.some.inj hp
  have HB := Aside0.mk hb
  have HV := Aside0.mk hv
  have HT := Aside0.mk (tabs_of hT hb)
  have hu27 := Tryz.underlying27
  have hu25 := Tryz.underlying25
  clear hb hp hT hv
  go_enter Tryz.func37, Tryz.ntmps37
  go_wp2_with (first
    | ((with_reducible refine gate_dst (N := 1) rfl ?_); refine bev (cells27 x) 27 ?_; intro gb hgb w1 hbox hb1
       have HB1 := Aside0.mk (HB.out.trans (hb1.mono HB.out.size)); have HT1 := Aside0.mk (tabs_of HT.out hb1); obtain ⟨y0, y1, y2, y3, y4, y5, _⟩ := cz6 hbox
       clear hgb hbox hb1)
    | (go_at_call 38; refine (value_Sound.calls k _ _ _ _ _ _ _ HT1.out HV.out).mono ?_; rintro e w2 ⟨rfl, hb2⟩))
  go_ret
  exact ⟨rfl, HB1.out.trans (hb2.mono HB1.out.size)⟩
set_option maxHeartbeats 4000000 in
set_option maxRecDepth 100000 in
theorem gives40 (gn : Nat) (n : ByteArray) (w : World) (hX : w.heap[gn]? = some (.cells #[.string n] 9 (0, 0))) : Gives27 40 #[.pointer (some ⟨gn, 0, none⟩)] (fun y => some (y.f0.toList == n.toList)) w := fun W x b hb hp => by
  show Calls Tryz.prog 40 #[.agg (cells27 x), .pointer (some ⟨gn, 0, none⟩)] W _
  have hXW := (hb.block gn (blk_lt hX)).trans hX
  obtain rfl := Option.some.inj hp
  have HB := Aside0.mk hb
  have HX := Aside0.mk hXW
  have hu27 := Tryz.underlying27
  clear hb hXW hX hp
  go_enter Tryz.func40, Tryz.ntmps40
  go_wp2_with ((with_reducible refine gate_dst (N := 2) rfl ?_); refine bev (cells27 x) 27 ?_; intro gb hgb w1 hbox hb1
               have HB1 := Aside0.mk (HB.out.trans (hb1.mono HB.out.size)); have x6 := czc1 (blk_below HX.out hb1); have y0 : w1.cell? ⟨gb, 0, none⟩ = some (.string x.f0) := (blk_cell hbox 0).trans rfl
               clear hgb hbox hb1)
  go_ret
  exact ⟨rfl, HB1.out⟩
end Go.Proofs.YtgkemhgihbfmmaaGreatDoor.PA
end
section
namespace Go.Proofs.YtgkemhgihbfmmaaGreatDoor.PA
open Go.RowKit Go.Proofs.YtgkemhgihbfmmaaGreatDoorW.PrintWords Go.Proofs.YtgkemhgihbfmmaaGreatDoorW.PrintLast Go.Proofs.YtgkemhgihbfmmaaGreatDoorW.PrintMore
attribute [local go_sem] max2_int min2_int max_two min_two max_three min_three max_four min_four isSome_set str_gtr
set_option linter.unusedVariables false
set_option linter.unusedSimpArgs false
end Go.Proofs.YtgkemhgihbfmmaaGreatDoor.PA
end
