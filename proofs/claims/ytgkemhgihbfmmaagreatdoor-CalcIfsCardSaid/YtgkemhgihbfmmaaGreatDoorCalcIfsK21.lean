/- Part 22 of the proof for CalcIfs: functions of the program as plain Lean functions, their calls, and what they come to. -/
import Derived.Deep.LoopGhost
import Derived.Test.YtgkemhgihbfmmaaGreatDoorCalcIfsK19
import Derived.Test.YtgkemhgihbfmmaaGreatDoorCalcIfsK20
import Derived.Test.YtgkemhgihbfmmaaGreatDoorCalcIfsK18
set_option linter.unusedVariables false
set_option linter.unusedSimpArgs false
section
namespace Go.Proofs.YtgkemhgihbfmmaaGreatDoor.PA
open Go.RowKit Go.Proofs.YtgkemhgihbfmmaaGreatDoorW.PrintWords Go.Proofs.YtgkemhgihbfmmaaGreatDoorW.PrintLast Go.Proofs.YtgkemhgihbfmmaaGreatDoorW.PrintMore
attribute [local go_sem] max2_int min2_int max_two min_two max_three min_three max_four min_four isSome_set str_gtr
set_option linter.unusedVariables false
set_option linter.unusedSimpArgs false
def expr_Parser_chain.T9 : Bool × List (List Nat × List Nat) := (true, [([], []), ([], []), ([], []), ([1, 2], [1, 2]), ([3], [3]), ([4], [4]), ([], []), ([5, 6], [5, 6]), ([7], [7]), ([], []), ([], []), ([], []), ([], []), ([12], [12]), ([10, 11, 13], [10, 11, 13]), ([9, 14], [9, 14]), ([0, 8, 15, 14], [0, 8, 15]), ([16, 16, 0, 1, 2, 3, 4, 5, 6, 7, 8, 9, 10, 11, 12, 13, 14, 15, 16], [16])])
def expr_Parser_chain.B9 : List Nat := [0, 0, 0, 6, 14, 30, 0, 126, 254, 0, 0, 0, 0, 4096, 15360, 32256, 65535, 131071]
theorem expr_Parser_chain.tab9 : rtab .any (opsOf Tryz.f64 9) = expr_Parser_chain.T9 := by kernel_rfl
theorem expr_Parser_chain.bits9 : waitsOk expr_Parser_chain.T9.2 expr_Parser_chain.B9 = true := by kernel_rfl
set_option maxHeartbeats 8000000 in
set_option maxRecDepth 100000 in
theorem expr_Parser_chain.step (k : Nat) (ih_expr_Parser_prefix : ∀ k', k' < k → ∀ (g : Nat) (s0_0 : List (S136)) (s0_1 : Int) (s0_2 : Int) (s0_3 : Int) (s0_4 : Int) (s0_5 : Int) (a1 : Int) (r1 : Int) (r2 : Int) (r3 : Int) (r4 : Int) (r5 : ByteArray) (r6 : Int) (r7 : ByteArray) (r8 : List (S31)) (r9 : Int) (r10 : Int) (r11 : Int) (r12 : Int) (r13 : Int) (w0 w : World) (hI : IsS63 w0 w g s0_0 s0_1 s0_2 s0_3 s0_4 s0_5) (hB : Below w0.heap.size w0 w) (h : expr_Parser_prefix.f k' s0_0 s0_1 s0_2 s0_3 s0_4 s0_5 a1 = some (r1, r2, r3, r4, r5, r6, r7, r8, r9, r10, r11, r12, r13)),
  Calls Tryz.prog 109 #[.pointer (some ⟨g, 0, none⟩), .int .i64 a1] w fun e w' => ∃ v7_ : Value, e = .returned (.agg #[.int .i64 r1, .int .i64 r2, .int .i64 r3, .int .i64 r4, .string r5, .int .i64 r6, .string r7, v7_]) ∧ Kd.V k31 31 w' w.heap.size (fun k_ => (w.heap.size ≤ k_)) v7_ r8 ∧ IsS63 w0 w' g s0_0 r9 r10 r11 r12 r13 ∧ Below w0.heap.size w0 w' ∧ KeepBut w w' g none) (ih_expr_Parser_chain : ∀ k', k' < k → ∀ (g : Nat) (s0_0 : List (S136)) (s0_1 : Int) (s0_2 : Int) (s0_3 : Int) (s0_4 : Int) (s0_5 : Int) (a1 : Int) (a2 : Int) (r1 : Int) (r2 : Int) (r3 : Int) (r4 : Int) (r5 : ByteArray) (r6 : Int) (r7 : ByteArray) (r8 : List (S31)) (r9 : Int) (r10 : Int) (r11 : Int) (r12 : Int) (r13 : Int) (w0 w : World) (hI : IsS63 w0 w g s0_0 s0_1 s0_2 s0_3 s0_4 s0_5) (hB : Below w0.heap.size w0 w) (h : expr_Parser_chain.f k' s0_0 s0_1 s0_2 s0_3 s0_4 s0_5 a1 a2 = some (r1, r2, r3, r4, r5, r6, r7, r8, r9, r10, r11, r12, r13)),
  Calls Tryz.prog 64 #[.pointer (some ⟨g, 0, none⟩), .int .i64 a1, .int .i64 a2] w fun e w' => ∃ v7_ : Value, e = .returned (.agg #[.int .i64 r1, .int .i64 r2, .int .i64 r3, .int .i64 r4, .string r5, .int .i64 r6, .string r7, v7_]) ∧ Kd.V k31 31 w' w.heap.size (fun k_ => (w.heap.size ≤ k_)) v7_ r8 ∧ IsS63 w0 w' g s0_0 r9 r10 r11 r12 r13 ∧ Below w0.heap.size w0 w' ∧ KeepBut w w' g none) (ih_expr_Parser_Expr : ∀ k', k' < k → ∀ (g : Nat) (s0_0 : List (S136)) (s0_1 : Int) (s0_2 : Int) (s0_3 : Int) (s0_4 : Int) (s0_5 : Int) (a1 : Int) (r1 : Int) (r2 : Int) (r3 : Int) (r4 : Int) (r5 : ByteArray) (r6 : Int) (r7 : ByteArray) (r8 : List (S31)) (r9 : Int) (r10 : Int) (r11 : Int) (r12 : Int) (r13 : Int) (w0 w : World) (hI : IsS63 w0 w g s0_0 s0_1 s0_2 s0_3 s0_4 s0_5) (hB : Below w0.heap.size w0 w) (h : expr_Parser_Expr.f k' s0_0 s0_1 s0_2 s0_3 s0_4 s0_5 a1 = some (r1, r2, r3, r4, r5, r6, r7, r8, r9, r10, r11, r12, r13)),
  Calls Tryz.prog 31 #[.pointer (some ⟨g, 0, none⟩), .int .i64 a1] w fun e w' => ∃ v7_ : Value, e = .returned (.agg #[.int .i64 r1, .int .i64 r2, .int .i64 r3, .int .i64 r4, .string r5, .int .i64 r6, .string r7, v7_]) ∧ Kd.V k31 31 w' w.heap.size (fun k_ => (w.heap.size ≤ k_)) v7_ r8 ∧ IsS63 w0 w' g s0_0 r9 r10 r11 r12 r13 ∧ Below w0.heap.size w0 w' ∧ KeepBut w w' g none) : ∀ (g : Nat) (s0_0 : List (S136)) (s0_1 : Int) (s0_2 : Int) (s0_3 : Int) (s0_4 : Int) (s0_5 : Int) (a1 : Int) (a2 : Int) (r1 : Int) (r2 : Int) (r3 : Int) (r4 : Int) (r5 : ByteArray) (r6 : Int) (r7 : ByteArray) (r8 : List (S31)) (r9 : Int) (r10 : Int) (r11 : Int) (r12 : Int) (r13 : Int) (w0 w : World) (hI : IsS63 w0 w g s0_0 s0_1 s0_2 s0_3 s0_4 s0_5) (hB : Below w0.heap.size w0 w) (h : expr_Parser_chain.f k s0_0 s0_1 s0_2 s0_3 s0_4 s0_5 a1 a2 = some (r1, r2, r3, r4, r5, r6, r7, r8, r9, r10, r11, r12, r13)),
  Calls Tryz.prog 64 #[.pointer (some ⟨g, 0, none⟩), .int .i64 a1, .int .i64 a2] w fun e w' => ∃ v7_ : Value, e = .returned (.agg #[.int .i64 r1, .int .i64 r2, .int .i64 r3, .int .i64 r4, .string r5, .int .i64 r6, .string r7, v7_]) ∧ Kd.V k31 31 w' w.heap.size (fun k_ => (w.heap.size ≤ k_)) v7_ r8 ∧ IsS63 w0 w' g s0_0 r9 r10 r11 r12 r13 ∧ Below w0.heap.size w0 w' ∧ KeepBut w w' g none := by
 intro g s0_0 s0_1 s0_2 s0_3 s0_4 s0_5 a1 a2 r1 r2 r3 r4 r5 r6 r7 r8 r9 r10 r11 r12 r13 w0 w hI hB h
 cases k with
 | zero => exact absurd h (by simp [expr_Parser_chain.f])
 | succ k =>
 simp only [expr_Parser_chain.f] at h
 have hu31 := Tryz.underlying31
 have HI0 := Aside0.mk hI
 have HK := Aside0.mk (KeepBut.refl w g none)
 have HL := Aside0.mk hB.size
 clear hI
 have HW0 := Aside0.mk hB.size
 have HB := Aside0.mk hB
 clear hB
 have H : ((expr_levels.f).bind fun t620 => (if a2 > 4 then ((expr_Parser_prefix.f k s0_0 s0_1 s0_2 s0_3 s0_4 s0_5 a1).bind fun bt623 => (some (bt623.1, bt623.2.1, bt623.2.2.1, bt623.2.2.2.1, bt623.2.2.2.2.1, bt623.2.2.2.2.2.1, bt623.2.2.2.2.2.2.1, bt623.2.2.2.2.2.2.2.1, bt623.2.2.2.2.2.2.2.2.1, bt623.2.2.2.2.2.2.2.2.2.1, bt623.2.2.2.2.2.2.2.2.2.2.1, bt623.2.2.2.2.2.2.2.2.2.2.2.1, bt623.2.2.2.2.2.2.2.2.2.2.2.2))) else ((expr_Parser_chain.f k s0_0 s0_1 s0_2 s0_3 s0_4 s0_5 a1 (wrap64 (a2 + 1))).bind fun bt638 => (expr_Parser_chain.l0 k a1 a2 t620 s0_0 bt638.2.2.2.2.2.2.2.2.1 bt638.2.2.2.2.2.2.2.2.2.1 bt638.2.2.2.2.2.2.2.2.2.2.1 bt638.2.2.2.2.2.2.2.2.2.2.2.1 bt638.2.2.2.2.2.2.2.2.2.2.2.2 bt638.1 bt638.2.1 bt638.2.2.1 bt638.2.2.2.1 bt638.2.2.2.2.1 bt638.2.2.2.2.2.1 bt638.2.2.2.2.2.2.1 bt638.2.2.2.2.2.2.2.1)))) = some (r1, r2, r3, r4, r5, r6, r7, r8, r9, r10, r11, r12, r13) := h
 clear h
 replace H := Option.bind_eq_some_iff.mp H
 obtain ⟨t620, A40, H⟩ := H
 replace H : (if a2 > 4 then ((expr_Parser_prefix.f k s0_0 s0_1 s0_2 s0_3 s0_4 s0_5 a1).bind fun bt623 => (some (bt623.1, bt623.2.1, bt623.2.2.1, bt623.2.2.2.1, bt623.2.2.2.2.1, bt623.2.2.2.2.2.1, bt623.2.2.2.2.2.2.1, bt623.2.2.2.2.2.2.2.1, bt623.2.2.2.2.2.2.2.2.1, bt623.2.2.2.2.2.2.2.2.2.1, bt623.2.2.2.2.2.2.2.2.2.2.1, bt623.2.2.2.2.2.2.2.2.2.2.2.1, bt623.2.2.2.2.2.2.2.2.2.2.2.2))) else ((expr_Parser_chain.f k s0_0 s0_1 s0_2 s0_3 s0_4 s0_5 a1 (wrap64 (a2 + 1))).bind fun bt638 => (expr_Parser_chain.l0 k a1 a2 t620 s0_0 bt638.2.2.2.2.2.2.2.2.1 bt638.2.2.2.2.2.2.2.2.2.1 bt638.2.2.2.2.2.2.2.2.2.2.1 bt638.2.2.2.2.2.2.2.2.2.2.2.1 bt638.2.2.2.2.2.2.2.2.2.2.2.2 bt638.1 bt638.2.1 bt638.2.2.1 bt638.2.2.2.1 bt638.2.2.2.2.1 bt638.2.2.2.2.2.1 bt638.2.2.2.2.2.2.1 bt638.2.2.2.2.2.2.2.1))) = some (r1, r2, r3, r4, r5, r6, r7, r8, r9, r10, r11, r12, r13) := H
 have A4 := Aside0.mk A40
 clear A40
 have HC5 := Aside0.mk H
 clear H
 go_enter Tryz.func64, Tryz.ntmps64
 go_upto_if 12 with (first | ((with_reducible refine gate_dst (N := 6) rfl ?_); refine bev (#[.int .i64 0, .int .i64 0, .int .i64 0, .int .i64 0, .string (⟨#[]⟩ : ByteArray), .int .i64 0, .string (⟨#[]⟩ : ByteArray), .slice none 0 0]) 31 ?_; intro gb619 hg w6 hbox hb; replace HB := sb HB hb; have BK619 := Aside0.mk (hbox); have GW619 := gk hg HK; have GE619 := Aside0.mk (Nat.le_trans HW0.out GW619.out); replace HK := Aside0.mk (KeepBut.trans (kz HK.out) (KeepBut.of_below hb g none) (.inl rfl)); have NB0_619 := Aside0.mk ((nlt (a := g) hg (IsS63.lt (show IsS63 w0 _ g s0_0 s0_1 s0_2 s0_3 s0_4 s0_5 from hz HI0.out)))); have NB619_0 := Aside0.mk ((ngt (a := g) hg (IsS63.lt (show IsS63 w0 _ g s0_0 s0_1 s0_2 s0_3 s0_4 s0_5 from hz HI0.out)))); replace HI0 := Aside0.mk (IsS63.below (hz HI0.out) hb); clear hb hbox hg) | ((with_reducible refine gate_callee (f := 108) rfl ?_); refine gl_ (some 10) Tryz.func108 (by kernel_rfl) #[] rfl ?_; (with_reducible refine (expr_levels.calls  t620 _ A4.out).mono ?_); rintro e w7 ⟨v621, rfl, ho0, hb⟩; refine ⟨_, rfl, ?_⟩; have HO622 := Aside0.mk (Kd.N_lower (Kd.N_mono (ok' := fun k_ => (w.heap.size ≤ k_) ∧ k_ ≠ gb619 ∧ k_ ≠ g) ho0 (fun k_ hk_ => ⟨(Nat.le_trans (keep_size (w := w) (g := g) (row := none) (kz HK.out)) hk_), (Kd.freshB (bk BK619.out) k_ hk_), (IsS63.fresh (hz HI0.out) k_ hk_)⟩)) (keep_size (w := w) (g := g) (row := none) (kz HK.out))); replace BK619 := kb BK619 hb; replace HK := Aside0.mk (KeepBut.trans (kz HK.out) (KeepBut.of_below hb g none) (.inl rfl)); replace HB := sb HB hb; replace HI0 := Aside0.mk (IsS63.below (hz HI0.out) hb); clear hb ho0))
 (try simp only [Act.put, List.setIfInBounds_toArray, List.set_cons_zero, List.set_cons_succ])
 have H := HC5.out
 clear HC5
 by_cases c8 : a2 > 4
 ·rw [if_pos c8] at H
  have c8b0 : decide (4 < a2) = true := decide_eq_true c8
  clear c8
  (first | rw [c8b0] | (simp only [i64_w, i32_w]; rw [c8b0]) | skip)
  replace H := Option.bind_eq_some_iff.mp H
  obtain ⟨⟨t623, t624, t625, t626, t627, t628, t629, t630, t633, t634, t635, t636, t637⟩, A90, H⟩ := H
  replace H : (some (t623, t624, t625, t626, t627, t628, t629, t630, t633, t634, t635, t636, t637)) = some (r1, r2, r3, r4, r5, r6, r7, r8, r9, r10, r11, r12, r13) := H
  have A9 := Aside0.mk A90
  clear A90
  simp only [Option.some.injEq, Prod.mk.injEq] at H
  obtain ⟨rfl, rfl, rfl, rfl, rfl, rfl, rfl, rfl, rfl, rfl, rfl, rfl, rfl⟩ := H
  go_wp2_with (first | ((with_reducible refine gate_callee (f := 109) rfl ?_); refine gl_ (some 15) Tryz.func109 (by kernel_rfl) #[.pointer (some ⟨g, 0, none⟩), .int .i64 a1] rfl ?_; (with_reducible refine (ih_expr_Parser_prefix k (by omega) g s0_0 s0_1 s0_2 s0_3 s0_4 s0_5 a1 t623 t624 t625 t626 t627 t628 t629 t630 t633 t634 t635 t636 t637 w0 _ ?side1 ?side2 A9.out).mono ?_); (case side1 => exact hz HI0.out); (case side2 => exact bz HB.out); rintro e w10 ⟨v631, rfl, ho0, hi, hb, hk⟩; refine ⟨_, rfl, ?_⟩; have HO632 := Aside0.mk (Kd.V_lower (Kd.V_mono (ok' := fun k_ => (w.heap.size ≤ k_) ∧ some k_ ≠ (v621 : Value).ownBlock ∧ k_ ≠ gb619 ∧ k_ ≠ g) ho0 (fun k_ hk_ => ⟨(Nat.le_trans (keep_size (w := w) (g := g) (row := none) (kz HK.out)) hk_), (Kd.fresh' (Kd.N_lt (nn HO622.out)) k_ hk_), (Kd.freshB (bk BK619.out) k_ hk_), (IsS63.fresh (hz HI0.out) k_ hk_)⟩)) (keep_size (w := w) (g := g) (row := none) (kz HK.out))); replace BK619 := Aside0.mk (KeepBut.blk hk (bk BK619.out) NB619_0.out (by simp)); replace HO622 := Aside0.mk (Kd.N_mono (Kd.N_keep (Kd.N_mono (ok := fun k_ => (((w.heap.size ≤ k_)) ∧ (k_ ≠ gb619 ∧ k_ ≠ g))) (nn HO622.out) (fun k_ hk_ => (⟨hk_, hk_.2.2⟩ : _ ∧ k_ ≠ g))) hk (fun _ h => h.2)) (fun _ h => h.1)); replace HK := Aside0.mk (KeepBut.trans (kz HK.out) hk (.inl rfl)); replace HB := Aside0.mk (hb); replace HI0 := Aside0.mk (hi); clear hb hk hi ho0; have hnb11 := NB619_0.out; have hnc11 := NB0_619.out; obtain ⟨Z12_0, Z12_1, Z12_2, Z12_3, Z12_4, Z12_5, Z12_6, Z12_7, F12_0, F12_1, F12_2, F12_3, F12_4, F12_5, F12_6, F12_7⟩ := cz8 BK619.out; obtain ⟨Ao13, co13, eo13⟩ := Kd.V_slice HO632.out; subst eo13))
  refine bodyPost_ret (results_cell_row rfl _ _ gb619 31 #[.int .i64 t623, .int .i64 t624, .int .i64 t625, .int .i64 t626, .string t627, .int .i64 t628, .string t629, .slice Ao13 t630.length co13] (0, 0) _ rfl (bp BK619.out) Tryz.underlying31 rfl (by kernel_rfl)) rfl ?_
  exact ⟨_, az, by (with_reducible repeat (first | apply Kd.V_alloc | apply Kd.V_drewN | apply Kd.V_drew)); exact Kd.V_mono (Kd.V_far (p := ⟨gb619, 7, none⟩) (Kd.V_far (p := ⟨gb619, 6, none⟩) (Kd.V_far (p := ⟨gb619, 5, none⟩) (Kd.V_far (p := ⟨gb619, 4, none⟩) (Kd.V_far (p := ⟨gb619, 3, none⟩) (Kd.V_far (p := ⟨gb619, 2, none⟩) (Kd.V_far (p := ⟨gb619, 1, none⟩) (Kd.V_far (p := ⟨gb619, 0, none⟩) (Kd.V_mono HO632.out (fun k_ hk => (⟨hk, hk.2.2.1⟩ : _ ∧ k_ ≠ gb619))) (fun _ hk => hk.2) (.int .i64 t623)) (fun _ hk => hk.2) (.int .i64 t624)) (fun _ hk => hk.2) (.int .i64 t625)) (fun _ hk => hk.2) (.int .i64 t626)) (fun _ hk => hk.2) (.string t627)) (fun _ hk => hk.2) (.int .i64 t628)) (fun _ hk => hk.2) (.string t629)) (fun _ hk => hk.2) (.slice Ao13 t630.length co13)) (fun _ hk => hk.1.1), hz HI0.out, bz HB.out, kz HK.out⟩
 ·rw [if_neg c8] at H
  have c8b0 : decide (4 < a2) = false := decide_eq_false c8
  clear c8
  (first | rw [c8b0] | (simp only [i64_w, i32_w]; rw [c8b0]) | skip)
  replace H := Option.bind_eq_some_iff.mp H
  obtain ⟨⟨t638, t639, t640, t641, t642, t643, t644, t645, t648, t649, t650, t651, t652⟩, A140, H⟩ := H
  replace H : (expr_Parser_chain.l0 k a1 a2 t620 s0_0 t648 t649 t650 t651 t652 t638 t639 t640 t641 t642 t643 t644 t645) = some (r1, r2, r3, r4, r5, r6, r7, r8, r9, r10, r11, r12, r13) := H
  have A14 := Aside0.mk A140
  clear A140
  have H' := Aside0.mk H
  clear H
  go_wp2_with (first | ((with_reducible refine gate_callee (f := 64) rfl ?_); refine gl_ (some 20) Tryz.func64 (by kernel_rfl) #[.pointer (some ⟨g, 0, none⟩), .int .i64 a1, .int .i64 (wrap64 (a2 + 1))] rfl ?_; (with_reducible refine (ih_expr_Parser_chain k (by omega) g s0_0 s0_1 s0_2 s0_3 s0_4 s0_5 a1 (wrap64 (a2 + 1)) t638 t639 t640 t641 t642 t643 t644 t645 t648 t649 t650 t651 t652 w0 _ ?side1 ?side2 A14.out).mono ?_); (case side1 => exact hz HI0.out); (case side2 => exact bz HB.out); rintro e w15 ⟨v646, rfl, ho0, hi, hb, hk⟩; refine ⟨_, rfl, ?_⟩; have HO647 := Aside0.mk (Kd.V_lower (Kd.V_mono (ok' := fun k_ => (w.heap.size ≤ k_) ∧ some k_ ≠ (v621 : Value).ownBlock ∧ k_ ≠ gb619 ∧ k_ ≠ g) ho0 (fun k_ hk_ => ⟨(Nat.le_trans (keep_size (w := w) (g := g) (row := none) (kz HK.out)) hk_), (Kd.fresh' (Kd.N_lt (nn HO622.out)) k_ hk_), (Kd.freshB (bk BK619.out) k_ hk_), (IsS63.fresh (hz HI0.out) k_ hk_)⟩)) (keep_size (w := w) (g := g) (row := none) (kz HK.out))); replace BK619 := Aside0.mk (KeepBut.blk hk (bk BK619.out) NB619_0.out (by simp)); replace HO622 := Aside0.mk (Kd.N_mono (Kd.N_keep (Kd.N_mono (ok := fun k_ => (((w.heap.size ≤ k_)) ∧ (k_ ≠ gb619 ∧ k_ ≠ g))) (nn HO622.out) (fun k_ hk_ => (⟨hk_, hk_.2.2⟩ : _ ∧ k_ ≠ g))) hk (fun _ h => h.2)) (fun _ h => h.1)); replace HK := Aside0.mk (KeepBut.trans (kz HK.out) hk (.inl rfl)); replace HB := Aside0.mk (hb); replace HI0 := Aside0.mk (hi); clear hb hk hi ho0) | ((with_reducible refine gate_dst (N := 8) rfl ?_); refine bev (#[.int .i64 0, .int .i64 0, .int .i64 0, .int .i64 0, .string (⟨#[]⟩ : ByteArray), .int .i64 0, .string (⟨#[]⟩ : ByteArray), .slice none 0 0]) 31 ?_; intro gb653 hg w16 hbox hb; replace HO622 := Aside0.mk (Kd.N_below (Kd.N_elderB (nn HO622.out) gb653 (Nat.le_of_eq hg.symm)) hb); replace HO647 := Aside0.mk (Kd.V_below (Kd.V_elderB (vv HO647.out) gb653 (Nat.le_of_eq hg.symm)) hb); replace HB := sb HB hb; have BK653 := Aside0.mk (hbox); have GW653 := gk hg HK; have GE653 := Aside0.mk (Nat.le_trans HW0.out GW653.out); replace HK := Aside0.mk (KeepBut.trans (kz HK.out) (KeepBut.of_below hb g none) (.inl rfl)); have NB619_653 := na hg BK619; have NB653_619 := nb hg BK619; replace BK619 := kb BK619 hb; have NB0_653 := Aside0.mk ((nlt (a := g) hg (IsS63.lt (show IsS63 w0 _ g s0_0 t648 t649 t650 t651 t652 from hz HI0.out)))); have NB653_0 := Aside0.mk ((ngt (a := g) hg (IsS63.lt (show IsS63 w0 _ g s0_0 t648 t649 t650 t651 t652 from hz HI0.out)))); replace HI0 := Aside0.mk (IsS63.below (hz HI0.out) hb); clear hb hbox hg; have hnb17 := NB653_619.out; have hnc17 := NB619_653.out; have hnb18 := NB653_0.out; have hnc18 := NB0_653.out; obtain ⟨Z19_0, Z19_1, Z19_2, Z19_3, Z19_4, Z19_5, Z19_6, Z19_7, F19_0, F19_1, F19_2, F19_3, F19_4, F19_5, F19_6, F19_7⟩ := cz8 BK653.out; obtain ⟨Ao20, co20, eo20⟩ := Kd.V_slice HO647.out; subst eo20))
  (try simp only [Act.put, List.setIfInBounds_toArray, List.set_cons_succ, List.set_cons_zero])
  go_loopg [] k (fun kq w' => ∃ (x1001_1 : Int) (x1002_1 : Int) (x1003_1 : Int) (x1004_1 : Int) (x1005_1 : Int) (x654000_1 : Int) (x654001_1 : Int) (x654002_1 : Int) (x654003_1 : Int) (x654004_1 : ByteArray) (x654005_1 : Int) (x654006_1 : ByteArray) (x654007_1 : List (S31)) (u654007 : Value), Aside0 (expr_Parser_chain.l0 kq a1 a2 t620 s0_0 x1001_1 x1002_1 x1003_1 x1004_1 x1005_1 x654000_1 x654001_1 x654002_1 x654003_1 x654004_1 x654005_1 x654006_1 x654007_1 = some (r1, r2, r3, r4, r5, r6, r7, r8, r9, r10, r11, r12, r13)) ∧ Aside0 (kq ≤ k) ∧ Aside0 (Kd.N k143 143 w' w.heap.size (fun k_ => (w.heap.size ≤ k_) ∧ k_ ≠ gb619 ∧ k_ ≠ gb653 ∧ k_ ≠ g) v621 t620) ∧ Aside0 (Kd.V k31 31 w' w.heap.size (fun k_ => (w.heap.size ≤ k_) ∧ some k_ ≠ (v621 : Value).ownBlock ∧ k_ ≠ gb619 ∧ k_ ≠ gb653 ∧ k_ ≠ g) u654007 x654007_1) ∧ Aside0 (w'.heap[gb619]? = some (.cells #[.int .i64 0, .int .i64 0, .int .i64 0, .int .i64 0, .string (⟨#[]⟩ : ByteArray), .int .i64 0, .string (⟨#[]⟩ : ByteArray), (.slice none 0 0)] 31 (0, 0))) ∧ Aside0 (w'.heap[gb653]? = some (.cells #[.int .i64 x654000_1, .int .i64 x654001_1, .int .i64 x654002_1, .int .i64 x654003_1, .string x654004_1, .int .i64 x654005_1, .string x654006_1, u654007] 31 (0, 0))) ∧ Aside0 (IsS63 w0 w' g s0_0 x1001_1 x1002_1 x1003_1 x1004_1 x1005_1) ∧ Aside0 (KeepBut w w' g none) ∧ Aside0 (Below w0.heap.size w0 w'))
  case atStart => exact ⟨(t648), (t649), (t650), (t651), (t652), (t638), (t639), (t640), (t641), (t642), (t643), (t644), (t645), (.slice Ao20 t645.length co20), H', ⟨Nat.le_refl _⟩, ⟨vfN HO622.out⟩, ⟨vfV HO647.out⟩, ⟨bp BK619.out⟩, ⟨bp BK653.out⟩, ⟨hz HI0.out⟩, ⟨kz HK.out⟩, ⟨bz HB.out⟩⟩
  case round =>
   clear H'
   try clear c1; try clear p2; try clear c6; try clear p6; try clear c8; try clear c8b0; try clear c10; try clear c11; try clear c17; try clear c18; try clear Z12_0; try clear Z12_1; try clear Z12_2; try clear Z12_3; try clear Z12_4; try clear Z12_5; try clear Z12_6; try clear Z12_7; try clear Z19_0; try clear Z19_1; try clear Z19_2; try clear Z19_3; try clear Z19_4; try clear Z19_5; try clear Z19_6; try clear Z19_7; try clear F12_0; try clear F12_1; try clear F12_2; try clear F12_3; try clear F12_4; try clear F12_5; try clear F12_6; try clear F12_7; try clear F19_0; try clear F19_1; try clear F19_2; try clear F19_3; try clear F19_4; try clear F19_5; try clear F19_6; try clear F19_7
   obtain ⟨x1001_1, x1002_1, x1003_1, x1004_1, x1005_1, x654000_1, x654001_1, x654002_1, x654003_1, x654004_1, x654005_1, x654006_1, x654007_1, u654007, HA, HK1, HO_7, HO_654007, BK619, BK653, HI0, HK, HB⟩ := hrel
   cases gk with
   | zero => exact absurd HA.out (by simp [expr_Parser_chain.l0])
   | succ k1 =>
    have H := HA.out
    clear HA
    simp only [expr_Parser_chain.l0] at H
    by_cases c21 : x1004_1 = 0
    ·rw [if_pos c21] at H
     have c21b0 : (x1004_1 == 0) = true := beq_iff_eq.mpr c21
     have c21b1 : (x1004_1 != 0) = false := bne_eq_false_iff_eq.mpr c21
     clear c21
     by_cases c22 : 0 ≤ a2
     ·rw [if_pos c22] at H
      have c22b0 : decide (0 ≤ a2) = true := decide_eq_true c22
      clear c22
      by_cases c23 : a2 < (t620.length : Int)
      ·rw [if_pos c23] at H
       have c23b0 : decide (a2 < (t620.length : Int)) = true := decide_eq_true c23
       clear c23
       replace H := Option.bind_eq_some_iff.mp H
       obtain ⟨⟨t655, t656, t657, t658, t659, t660⟩, A240, H⟩ := H
       replace H : (if t655 < 0 then (some (x654000_1, x654001_1, x654002_1, x654003_1, x654004_1, x654005_1, x654006_1, x654007_1, t656, t657, t658, t659, t660)) else (if 0 ≤ t655 then (if t655 < (((rd_T143 t620 a2).f1).length : Int) then ((expr_Parser_chain.f k1 s0_0 (wrap64 (t656 + 1)) t657 t658 t659 t660 a1 (wrap64 (a2 + 1))).bind fun bt663 => ((expr_Parser_make.f s0_0 bt663.2.2.2.2.2.2.2.2.1 bt663.2.2.2.2.2.2.2.2.2.1 bt663.2.2.2.2.2.2.2.2.2.2.1 bt663.2.2.2.2.2.2.2.2.2.2.2.1 bt663.2.2.2.2.2.2.2.2.2.2.2.2 (rd ((rd_T143 t620 a2).f1) t655) (([(⟨x654000_1, (⟨x654001_1, (⟨x654002_1, x654003_1⟩ : S23), x654004_1, x654005_1⟩ : S25), x654006_1, x654007_1⟩ : S31), (⟨bt663.1, (⟨bt663.2.1, (⟨bt663.2.2.1, bt663.2.2.2.1⟩ : S23), bt663.2.2.2.2.1, bt663.2.2.2.2.2.1⟩ : S25), bt663.2.2.2.2.2.2.1, bt663.2.2.2.2.2.2.2.1⟩ : S31)] : List (S31)))).bind fun bt681 => (if (rd_T143 t620 a2).f2 = true then (some (bt681.1, bt681.2.1, bt681.2.2.1, bt681.2.2.2.1, bt681.2.2.2.2.1, bt681.2.2.2.2.2.1, bt681.2.2.2.2.2.2.1, bt681.2.2.2.2.2.2.2.1, bt681.2.2.2.2.2.2.2.2.1, bt681.2.2.2.2.2.2.2.2.2.1, bt681.2.2.2.2.2.2.2.2.2.2.1, bt681.2.2.2.2.2.2.2.2.2.2.2.1, bt681.2.2.2.2.2.2.2.2.2.2.2.2)) else (expr_Parser_chain.l0 k1 a1 a2 t620 s0_0 bt681.2.2.2.2.2.2.2.2.1 bt681.2.2.2.2.2.2.2.2.2.1 bt681.2.2.2.2.2.2.2.2.2.2.1 bt681.2.2.2.2.2.2.2.2.2.2.2.1 bt681.2.2.2.2.2.2.2.2.2.2.2.2 bt681.1 bt681.2.1 bt681.2.2.1 bt681.2.2.2.1 bt681.2.2.2.2.1 bt681.2.2.2.2.2.1 bt681.2.2.2.2.2.2.1 bt681.2.2.2.2.2.2.2.1)))) else (none)) else (none))) = some (r1, r2, r3, r4, r5, r6, r7, r8, r9, r10, r11, r12, r13) := H
       have A24 := Aside0.mk A240
       clear A240
       have HC25 := Aside0.mk H
       clear H
       obtain ⟨ASz26_0, cSz26_0, HSz26_0, Z26_0, Z26_1, Z26_2, Z26_3, Z26_4, Z26_5, F26_1, F26_2, F26_3, F26_4, F26_5⟩ := open63 HI0.out
       obtain ⟨Ao27, co27, eo27⟩ := Kd.N_slice HO_7.out
       subst eo27
       have p654 : 0 ≤ (a2 : Int) := of_decide_eq_true tz
       have q654 : a2 < (t620.length : Int) := of_decide_eq_true tz
       obtain ⟨ad654, A654_0, c654_0, A654_1, c654_1, e654, hx654_0, hx654_1, hx654_2, hl654_0, hi654_0, hl654_1, hi654_1⟩ := at_T143 (Kd.N_reads' HO_7.out).2.2 a2 p654 q654
       cases e654
       obtain ⟨ce654, hce654, hMe654, hcc654⟩ := Kd.N_get HO_7.out z143 a2 p654 (by first | exact q654 | exact of_decide_eq_true tz | (have e_ := (Kd.N_reads' HO_7.out).1; omega))
       obtain ⟨ua654_0, uc654_0, ua654_1, uc654_1, rfl, ul654_0, ge654_0, ul654_1, ge654_1⟩ := k143_openF hMe654
       have hv654_0 := hcc654 0 _ rfl
       rw [Nat.add_zero] at hv654_0
       replace hv654_0 := Option.some.inj (hv654_0.symm.trans hx654_0)
       injection hv654_0 with hva_ hvn_ hvc_
       rw [hva_] at ge654_0
       rw [hvc_] at ul654_0
       have HL654_0 := Aside0.mk (show Kd.V Kd.string 9 _ w.heap.size _ _ ((rd_T143 t620 a2).f0) from Kd.V_mk ul654_0 ge654_0)
       clear hva_ hvn_ hvc_ ge654_0 ul654_0
       have hv654_1 := hcc654 1 _ rfl
       rw [add_field _ _ 1 (by omega)] at hv654_1
       replace hv654_1 := Option.some.inj (hv654_1.symm.trans hx654_1)
       injection hv654_1 with hva_ hvn_ hvc_
       rw [hva_] at ge654_1
       rw [hvc_] at ul654_1
       have HL654_1 := Aside0.mk (show Kd.V (Kd.int .i64) 3 _ w.heap.size _ _ ((rd_T143 t620 a2).f1) from Kd.V_mk ul654_1 ge654_1)
       clear hva_ hvn_ hvc_ ge654_1 ul654_1
       have HR654_0 := Aside0.mk hi654_0
       have HC654_0 := Aside0.mk hl654_0
       clear hi654_0 hl654_0
       have HR654_1 := Aside0.mk hi654_1
       have HC654_1 := Aside0.mk hl654_1
       clear hi654_1 hl654_1
       replace p654 := eq_true p654
       replace q654 := eq_true q654
       go_upto_if 35 with (first | ((with_reducible refine gate_callee (f := 110) rfl ?_); refine gl_ (some 33) Tryz.func110 (by kernel_rfl) #[.slice A654_0 ((rd_T143 t620 a2).f0).length c654_0, .func (.func 107) #[.pointer (some ⟨g, 0, none⟩)] #[]] rfl ?_; (with_reducible refine (standin_IndexIs.calls k1 _ _ ((rd_T143 t620 a2).f0) g s0_0 x1001_1 x1002_1 x1003_1 x1004_1 x1005_1 t655 t656 t657 t658 t659 t660 w0 _ ?side1 ?side2 ?side3 ?side4 A24.out).mono ?_); (case side1 => exact hz HI0.out); (case side2 => exact bz HB.out); (case side3 => repeat (first | exact (by repeat (first | (with_reducible exact HR654_0.out) | (with_reducible refine Kd.C_alloc ?_ _) | (with_reducible refine Kd.C_drewN ?_ _) | (with_reducible refine Kd.C_drew ?_) | exact HR654_0.out)) | (with_reducible refine Kd.C_alloc ?_ _) | (with_reducible refine Kd.C_drewN ?_ _) | (with_reducible refine Kd.C_drew ?_))); (case side4 => exact HC654_0.out); rintro e w28 ⟨rfl, hi, hb, hk⟩; refine ⟨_, rfl, ?_⟩; replace HO_7 := Aside0.mk (Kd.N_mono (Kd.N_keep (Kd.N_mono (ok := fun k_ => (((w.heap.size ≤ k_)) ∧ (k_ ≠ gb619 ∧ (k_ ≠ gb653 ∧ k_ ≠ g)))) (nn HO_7.out) (fun k_ hk_ => (⟨hk_, hk_.2.2.2⟩ : _ ∧ k_ ≠ g))) hk (fun _ h => h.2)) (fun _ h => h.1)); replace HO_654007 := Aside0.mk (Kd.V_mono (Kd.V_keep (Kd.V_mono (ok := fun k_ => (((w.heap.size ≤ k_)) ∧ (some k_ ≠ (.slice (some ad654) t620.length co27 : Value).ownBlock ∧ (k_ ≠ gb619 ∧ (k_ ≠ gb653 ∧ k_ ≠ g))))) (vv HO_654007.out) (fun k_ hk_ => (⟨hk_, hk_.2.2.2.2⟩ : _ ∧ k_ ≠ g))) hk (fun _ h => h.2)) (fun _ h => h.1)); replace BK619 := Aside0.mk (KeepBut.blk hk (bk BK619.out) NB619_0.out (by simp)); replace BK653 := Aside0.mk (KeepBut.blk hk (bk BK653.out) NB653_0.out (by simp)); replace HL654_0 := Aside0.mk (Kd.V_mono (Kd.V_keep (Kd.V_mono (ok := fun k_ => ((((w.heap.size ≤ k_)) ∧ (k_ ≠ gb619 ∧ (k_ ≠ gb653 ∧ k_ ≠ g))) ∧ some k_ ≠ (.slice (some ad654) t620.length co27 : Value).ownBlock)) (vv HL654_0.out) (fun k_ hk_ => (⟨hk_, hk_.1.2.2.2⟩ : _ ∧ k_ ≠ g))) hk (fun _ h => h.2)) (fun _ h => h.1)); replace HL654_1 := Aside0.mk (Kd.V_mono (Kd.V_keep (Kd.V_mono (ok := fun k_ => ((((w.heap.size ≤ k_)) ∧ (k_ ≠ gb619 ∧ (k_ ≠ gb653 ∧ k_ ≠ g))) ∧ some k_ ≠ (.slice (some ad654) t620.length co27 : Value).ownBlock)) (vv HL654_1.out) (fun k_ hk_ => (⟨hk_, hk_.1.2.2.2⟩ : _ ∧ k_ ≠ g))) hk (fun _ h => h.2)) (fun _ h => h.1)); replace HK := Aside0.mk (KeepBut.trans (kz HK.out) hk (.inl rfl)); replace HB := Aside0.mk (hb); replace HI0 := Aside0.mk (hi); clear hb hk hi))
       (try simp only [Act.put, List.setIfInBounds_toArray, List.set_cons_zero, List.set_cons_succ])
       have H := HC25.out
       clear HC25
       clear Z26_0 Z26_1 Z26_2 Z26_3 Z26_4 Z26_5 F26_1 F26_2 F26_3 F26_4 F26_5 hx654_0 hx654_1 hx654_2
       by_cases c29 : t655 < 0
       ·rw [if_pos c29] at H
        have c29b0 : decide (t655 < 0) = true := decide_eq_true c29
        clear c29
        (first | rw [c29b0] | (simp only [i64_w, i32_w]; rw [c29b0]) | skip)
        simp only [Option.some.injEq, Prod.mk.injEq] at H
        obtain ⟨rfl, rfl, rfl, rfl, rfl, rfl, rfl, rfl, rfl, rfl, rfl, rfl, rfl⟩ := H
        have hnb30 := NB653_619.out
        have hnc30 := NB619_653.out
        have hnb31 := NB653_0.out
        have hnc31 := NB0_653.out
        obtain ⟨Z32_0, Z32_1, Z32_2, Z32_3, Z32_4, Z32_5, Z32_6, Z32_7, F32_0, F32_1, F32_2, F32_3, F32_4, F32_5, F32_6, F32_7⟩ := cz8 BK653.out
        have hnb33 := NB619_0.out
        have hnc33 := NB0_619.out
        obtain ⟨Z34_0, Z34_1, Z34_2, Z34_3, Z34_4, Z34_5, Z34_6, Z34_7, F34_0, F34_1, F34_2, F34_3, F34_4, F34_5, F34_6, F34_7⟩ := cz8 BK619.out
        obtain ⟨Ao35, co35, eo35⟩ := Kd.V_slice HO_654007.out
        subst eo35
        go_wp2
        refine bodyPost_ret (results_cell_row rfl _ _ gb619 31 #[.int .i64 x654000_1, .int .i64 x654001_1, .int .i64 x654002_1, .int .i64 x654003_1, .string x654004_1, .int .i64 x654005_1, .string x654006_1, .slice Ao35 x654007_1.length co35] (0, 0) _ rfl (bp BK619.out) Tryz.underlying31 rfl (by kernel_rfl)) rfl ?_
        exact ⟨_, az, by (with_reducible repeat (first | apply Kd.V_alloc | apply Kd.V_drewN | apply Kd.V_drew)); exact Kd.V_mono (Kd.V_far (p := ⟨gb619, 7, none⟩) (Kd.V_far (p := ⟨gb619, 6, none⟩) (Kd.V_far (p := ⟨gb619, 5, none⟩) (Kd.V_far (p := ⟨gb619, 4, none⟩) (Kd.V_far (p := ⟨gb619, 3, none⟩) (Kd.V_far (p := ⟨gb619, 2, none⟩) (Kd.V_far (p := ⟨gb619, 1, none⟩) (Kd.V_far (p := ⟨gb619, 0, none⟩) (Kd.V_mono HO_654007.out (fun k_ hk => (⟨hk, hk.2.2.1⟩ : _ ∧ k_ ≠ gb619))) (fun _ hk => hk.2) (.int .i64 x654000_1)) (fun _ hk => hk.2) (.int .i64 x654001_1)) (fun _ hk => hk.2) (.int .i64 x654002_1)) (fun _ hk => hk.2) (.int .i64 x654003_1)) (fun _ hk => hk.2) (.string x654004_1)) (fun _ hk => hk.2) (.int .i64 x654005_1)) (fun _ hk => hk.2) (.string x654006_1)) (fun _ hk => hk.2) (.slice Ao35 x654007_1.length co35)) (fun _ hk => hk.1.1), hz HI0.out, bz HB.out, kz HK.out⟩
       ·rw [if_neg c29] at H
        have c29b0 : decide (t655 < 0) = false := decide_eq_false c29
        clear c29
        (first | rw [c29b0] | (simp only [i64_w, i32_w]; rw [c29b0]) | skip)
        by_cases c36 : 0 ≤ t655
        ·rw [if_pos c36] at H
         have c36b0 : decide (0 ≤ t655) = true := decide_eq_true c36
         clear c36
         by_cases c37 : t655 < (((rd_T143 t620 a2).f1).length : Int)
         ·rw [if_pos c37] at H
          have c37b0 : decide (t655 < (((rd_T143 t620 a2).f1).length : Int)) = true := decide_eq_true c37
          clear c37
          replace H := Option.bind_eq_some_iff.mp H
          obtain ⟨⟨t663, t664, t665, t666, t667, t668, t669, t670, t673, t674, t675, t676, t677⟩, A380, H⟩ := H
          replace H : ((expr_Parser_make.f s0_0 t673 t674 t675 t676 t677 (rd ((rd_T143 t620 a2).f1) t655) (([(⟨x654000_1, (⟨x654001_1, (⟨x654002_1, x654003_1⟩ : S23), x654004_1, x654005_1⟩ : S25), x654006_1, x654007_1⟩ : S31), (⟨t663, (⟨t664, (⟨t665, t666⟩ : S23), t667, t668⟩ : S25), t669, t670⟩ : S31)] : List (S31)))).bind fun bt681 => (if (rd_T143 t620 a2).f2 = true then (some (bt681.1, bt681.2.1, bt681.2.2.1, bt681.2.2.2.1, bt681.2.2.2.2.1, bt681.2.2.2.2.2.1, bt681.2.2.2.2.2.2.1, bt681.2.2.2.2.2.2.2.1, bt681.2.2.2.2.2.2.2.2.1, bt681.2.2.2.2.2.2.2.2.2.1, bt681.2.2.2.2.2.2.2.2.2.2.1, bt681.2.2.2.2.2.2.2.2.2.2.2.1, bt681.2.2.2.2.2.2.2.2.2.2.2.2)) else (expr_Parser_chain.l0 k1 a1 a2 t620 s0_0 bt681.2.2.2.2.2.2.2.2.1 bt681.2.2.2.2.2.2.2.2.2.1 bt681.2.2.2.2.2.2.2.2.2.2.1 bt681.2.2.2.2.2.2.2.2.2.2.2.1 bt681.2.2.2.2.2.2.2.2.2.2.2.2 bt681.1 bt681.2.1 bt681.2.2.1 bt681.2.2.2.1 bt681.2.2.2.2.1 bt681.2.2.2.2.2.1 bt681.2.2.2.2.2.2.1 bt681.2.2.2.2.2.2.2.1))) = some (r1, r2, r3, r4, r5, r6, r7, r8, r9, r10, r11, r12, r13) := H
          have A38 := Aside0.mk A380
          clear A380
          obtain ⟨y678, hy678⟩ : ∃ y_ : List (S31), y_ = (([(⟨x654000_1, (⟨x654001_1, (⟨x654002_1, x654003_1⟩ : S23), x654004_1, x654005_1⟩ : S25), x654006_1, x654007_1⟩ : S31), (⟨t663, (⟨t664, (⟨t665, t666⟩ : S23), t667, t668⟩ : S25), t669, t670⟩ : S31)] : List (S31))) := ⟨_, rfl⟩
          replace H : ((expr_Parser_make.f s0_0 t673 t674 t675 t676 t677 (rd ((rd_T143 t620 a2).f1) t655) y678).bind fun bt681 => (if (rd_T143 t620 a2).f2 = true then (some (bt681.1, bt681.2.1, bt681.2.2.1, bt681.2.2.2.1, bt681.2.2.2.2.1, bt681.2.2.2.2.2.1, bt681.2.2.2.2.2.2.1, bt681.2.2.2.2.2.2.2.1, bt681.2.2.2.2.2.2.2.2.1, bt681.2.2.2.2.2.2.2.2.2.1, bt681.2.2.2.2.2.2.2.2.2.2.1, bt681.2.2.2.2.2.2.2.2.2.2.2.1, bt681.2.2.2.2.2.2.2.2.2.2.2.2)) else (expr_Parser_chain.l0 k1 a1 a2 t620 s0_0 bt681.2.2.2.2.2.2.2.2.1 bt681.2.2.2.2.2.2.2.2.2.1 bt681.2.2.2.2.2.2.2.2.2.2.1 bt681.2.2.2.2.2.2.2.2.2.2.2.1 bt681.2.2.2.2.2.2.2.2.2.2.2.2 bt681.1 bt681.2.1 bt681.2.2.1 bt681.2.2.2.1 bt681.2.2.2.2.1 bt681.2.2.2.2.2.1 bt681.2.2.2.2.2.2.1 bt681.2.2.2.2.2.2.2.1))) = some (r1, r2, r3, r4, r5, r6, r7, r8, r9, r10, r11, r12, r13) := by first | (rw [hy678]; with_reducible exact H) | (have H2_ := (Option.bind_some _ _).symm.trans H; rw [hy678]; with_reducible exact H2_) | (have H2_ := (Option.bind_some _ _).symm.trans H; with_reducible exact H2_) | with_reducible exact H | (rw [hy678]; exact H) | exact H
          have Ny678 := Aside0.mk hy678
          clear hy678
          replace H := Option.bind_eq_some_iff.mp H
          obtain ⟨⟨t681, t682, t683, t684, t685, t686, t687, t688, t691, t692, t693, t694, t695⟩, A390, H⟩ := H
          replace H : (if (rd_T143 t620 a2).f2 = true then (some (t681, t682, t683, t684, t685, t686, t687, t688, t691, t692, t693, t694, t695)) else (expr_Parser_chain.l0 k1 a1 a2 t620 s0_0 t691 t692 t693 t694 t695 t681 t682 t683 t684 t685 t686 t687 t688)) = some (r1, r2, r3, r4, r5, r6, r7, r8, r9, r10, r11, r12, r13) := H
          have A39 := Aside0.mk A390
          clear A390
          have HC40 := Aside0.mk H
          clear H
          obtain ⟨ASz41_0, cSz41_0, HSz41_0, Z41_0, Z41_1, Z41_2, Z41_3, Z41_4, Z41_5, F41_1, F41_2, F41_3, F41_4, F41_5⟩ := open63 HI0.out
          try go_wp2
          have n0_ : Aside0 (Kd.N k143 143 (w28.setCell ⟨g, 1, none⟩ (.int .i64 (wrap64 (t656 + 1)))) w.heap.size (fun k_ => (w.heap.size ≤ k_) ∧ k_ ≠ gb619 ∧ k_ ≠ gb653 ∧ k_ ≠ g) (.slice (some ad654) t620.length co27) t620) := ⟨vfN HO_7.out⟩
          have n1_ : Aside0 (Kd.V k31 31 (w28.setCell ⟨g, 1, none⟩ (.int .i64 (wrap64 (t656 + 1)))) w.heap.size (fun k_ => (w.heap.size ≤ k_) ∧ some k_ ≠ (.slice (some ad654) t620.length co27 : Value).ownBlock ∧ k_ ≠ gb619 ∧ k_ ≠ gb653 ∧ k_ ≠ g) u654007 x654007_1) := ⟨vfV HO_654007.out⟩
          have n2_ : Aside0 (Kd.V Kd.string 9 (w28.setCell ⟨g, 1, none⟩ (.int .i64 (wrap64 (t656 + 1)))) w.heap.size (fun k_ => (w.heap.size ≤ k_) ∧ some k_ ≠ (.slice (some ad654) t620.length co27 : Value).ownBlock ∧ k_ ≠ gb619 ∧ k_ ≠ gb653 ∧ k_ ≠ g) (.slice A654_0 ((rd_T143 t620 a2).f0).length c654_0) ((rd_T143 t620 a2).f0)) := ⟨vfV (Kd.V_mono HL654_0.out (fun k_ hk => (⟨hk, hk.1.2.2.2⟩ : _ ∧ k_ ≠ g)))⟩
          have n3_ : Aside0 (Kd.V (Kd.int .i64) 3 (w28.setCell ⟨g, 1, none⟩ (.int .i64 (wrap64 (t656 + 1)))) w.heap.size (fun k_ => (w.heap.size ≤ k_) ∧ some k_ ≠ (.slice (some ad654) t620.length co27 : Value).ownBlock ∧ k_ ≠ gb619 ∧ k_ ≠ gb653 ∧ k_ ≠ g) (.slice A654_1 ((rd_T143 t620 a2).f1).length c654_1) ((rd_T143 t620 a2).f1)) := ⟨vfV (Kd.V_mono HL654_1.out (fun k_ hk => (⟨hk, hk.1.2.2.2⟩ : _ ∧ k_ ≠ g)))⟩
          have n4_ : Aside0 ((w28.setCell ⟨g, 1, none⟩ (.int .i64 (wrap64 (t656 + 1)))).heap[gb619]? = some (.cells #[.int .i64 0, .int .i64 0, .int .i64 0, .int .i64 0, .string (⟨#[]⟩ : ByteArray), .int .i64 0, .string (⟨#[]⟩ : ByteArray), .slice none 0 0] 31 (0, 0))) := ⟨bp BK619.out⟩
          have n5_ : Aside0 ((w28.setCell ⟨g, 1, none⟩ (.int .i64 (wrap64 (t656 + 1)))).heap[gb653]? = some (.cells #[.int .i64 x654000_1, .int .i64 x654001_1, .int .i64 x654002_1, .int .i64 x654003_1, .string x654004_1, .int .i64 x654005_1, .string x654006_1, u654007] 31 (0, 0))) := ⟨bp BK653.out⟩
          have n6_ : Aside0 (IsS63 w0 (w28.setCell ⟨g, 1, none⟩ (.int .i64 (wrap64 (t656 + 1)))) g s0_0 (wrap64 (t656 + 1)) t657 t658 t659 t660) := ⟨hz HI0.out⟩
          have n7_ : Aside0 (KeepBut w (w28.setCell ⟨g, 1, none⟩ (.int .i64 (wrap64 (t656 + 1)))) g none) := ⟨kz HK.out⟩
          have n8_ : Aside0 (Below w0.heap.size w0 (w28.setCell ⟨g, 1, none⟩ (.int .i64 (wrap64 (t656 + 1))))) := ⟨bz HB.out⟩
          (try clear HO_7)
          (try clear HO_654007)
          (try clear HL654_0)
          (try clear HL654_1)
          (try clear BK619)
          (try clear BK653)
          (try clear HI0)
          (try clear HK)
          (try clear HB)
          generalize (w28.setCell ⟨g, 1, none⟩ (.int .i64 (wrap64 (t656 + 1)))) = w42 at n0_ n1_ n2_ n3_ n4_ n5_ n6_ n7_ n8_ ⊢
          have HO_7 := n0_
          have HO_654007 := n1_
          have HL654_0 := n2_
          have HL654_1 := n3_
          have BK619 := n4_
          have BK653 := n5_
          have HI0 := n6_
          have HK := n7_
          have HB := n8_
          clear n0_ n1_ n2_ n3_ n4_ n5_ n6_ n7_ n8_
          replace HO_7 := Aside0.mk (Kd.N_drew HO_7.out)
          replace HO_654007 := Aside0.mk (Kd.V_drew HO_654007.out)
          replace HL654_0 := Aside0.mk (Kd.V_drew HL654_0.out)
          replace HL654_1 := Aside0.mk (Kd.V_drew HL654_1.out)
          replace BK619 := Aside0.mk (blk_drew BK619.out)
          replace BK653 := Aside0.mk (blk_drew BK653.out)
          replace HI0 := Aside0.mk (IsS63.drew HI0.out)
          replace HK := Aside0.mk (keep_drew HK.out)
          replace HB := Aside0.mk (below_drew1 HB.out)
          have p661 : 0 ≤ (a2 : Int) := of_decide_eq_true tz
          have q661 : a2 < (t620.length : Int) := of_decide_eq_true tz
          obtain ⟨ad661, A661_0, c661_0, A661_1, c661_1, e661, hx661_0, hx661_1, hx661_2, hl661_0, hi661_0, hl661_1, hi661_1⟩ := at_T143 (Kd.N_reads' HO_7.out).2.2 a2 p661 q661
          obtain rfl : ad654 = ad661 := (by injection e661)
          obtain ⟨ce661, hce661, hMe661, hcc661⟩ := Kd.N_get HO_7.out z143 a2 p661 (by first | exact q661 | exact of_decide_eq_true tz | (have e_ := (Kd.N_reads' HO_7.out).1; omega))
          obtain ⟨ua661_0, uc661_0, ua661_1, uc661_1, rfl, ul661_0, ge661_0, ul661_1, ge661_1⟩ := k143_openF hMe661
          have hv661_0 := hcc661 0 _ rfl
          rw [Nat.add_zero] at hv661_0
          replace hv661_0 := Option.some.inj (hv661_0.symm.trans hx661_0)
          injection hv661_0 with hva_ hvn_ hvc_
          rw [hva_] at ge661_0
          rw [hvc_] at ul661_0
          have HL661_0 := Aside0.mk (show Kd.V Kd.string 9 _ w.heap.size _ _ ((rd_T143 t620 a2).f0) from Kd.V_mk ul661_0 ge661_0)
          clear hva_ hvn_ hvc_ ge661_0 ul661_0
          have hv661_1 := hcc661 1 _ rfl
          rw [add_field _ _ 1 (by omega)] at hv661_1
          replace hv661_1 := Option.some.inj (hv661_1.symm.trans hx661_1)
          injection hv661_1 with hva_ hvn_ hvc_
          rw [hva_] at ge661_1
          rw [hvc_] at ul661_1
          have HL661_1 := Aside0.mk (show Kd.V (Kd.int .i64) 3 _ w.heap.size _ _ ((rd_T143 t620 a2).f1) from Kd.V_mk ul661_1 ge661_1)
          clear hva_ hvn_ hvc_ ge661_1 ul661_1
          have HR661_0 := Aside0.mk hi661_0
          have HC661_0 := Aside0.mk hl661_0
          clear hi661_0 hl661_0
          have HR661_1 := Aside0.mk hi661_1
          have HC661_1 := Aside0.mk hl661_1
          clear hi661_1 hl661_1
          replace p661 := eq_true p661
          replace q661 := eq_true q661
          have p662 : 0 ≤ (t655 : Int) := of_decide_eq_true tz
          have q662 : t655 < (((rd_T143 t620 a2).f1).length : Int) := of_decide_eq_true tz
          obtain ⟨ad662, e662, hx662_0⟩ := Kd.at_int (by repeat (first | (with_reducible exact HR661_1.out) | (with_reducible refine Kd.C_alloc ?_ _) | (with_reducible refine Kd.C_drewN ?_ _) | (with_reducible refine Kd.C_drew ?_) | exact HR661_1.out)) t655 p662 q662
          cases e662
          replace p662 := eq_true p662
          replace q662 := eq_true q662
          refine start_ (n := 18) (S := fun w' => w'.cell? ⟨gb653, 0, none⟩ = some (.int .i64 x654000_1) ∧ w'.cell? ⟨gb653, 1, none⟩ = some (.int .i64 x654001_1) ∧ w'.cell? ⟨gb653, 2, none⟩ = some (.int .i64 x654002_1) ∧ w'.cell? ⟨gb653, 3, none⟩ = some (.int .i64 x654003_1) ∧ w'.cell? ⟨gb653, 4, none⟩ = some (.string x654004_1) ∧ w'.cell? ⟨gb653, 5, none⟩ = some (.int .i64 x654005_1) ∧ w'.cell? ⟨gb653, 6, none⟩ = some (.string x654006_1) ∧ w'.cell? ⟨gb653, 7, none⟩ = some (u654007) ∧ w'.cell? (ad654.add ((a2).toNat * 3)) = some (.slice A661_0 ((rd_T143 t620 a2).f0).length c661_0) ∧ w'.cell? ⟨(ad654.add ((a2).toNat * 3)).block, (ad654.add ((a2).toNat * 3)).off + 1, none⟩ = some (.slice (some ad662) ((rd_T143 t620 a2).f1).length c661_1) ∧ w'.cell? ⟨(ad654.add ((a2).toNat * 3)).block, (ad654.add ((a2).toNat * 3)).off + 2, none⟩ = some (.bool ((rd_T143 t620 a2).f2)) ∧ w'.cell? (ad662.add (t655).toNat) = some (.int .i64 (rd ((rd_T143 t620 a2).f1) t655))) (ds := [17]) (bts0 18) (by kernel_rfl) rfl rfl ⟨(blk_cell BK653.out 0).trans rfl, (blk_cell BK653.out 1).trans rfl, (blk_cell BK653.out 2).trans rfl, (blk_cell BK653.out 3).trans rfl, (blk_cell BK653.out 4).trans rfl, (blk_cell BK653.out 5).trans rfl, (blk_cell BK653.out 6).trans rfl, (blk_cell BK653.out 7).trans rfl, hx661_0, hx661_1, hx661_2, hx662_0⟩ (fun hHeld => ?_); refine with_tabW expr_Parser_chain.tab9 expr_Parser_chain.bits9 (fun HT_ HW_ => ?_)
          generalize w42.drew = w43 at HO_7 HO_654007 HL654_0 HL654_1 BK619 BK653 HI0 HK HB HL661_0 HL661_1 HR661_0 HR661_1 hx661_0 hx661_1 hx661_2 hx662_0 hHeld ⊢
          refine pu 0 (some 43) (bts 18 1) (any_of HT_.out (by kernel_rfl)) ?_
          refine pu 1 (some 44) (bts 18 3) (any_of HT_.out (by kernel_rfl)) ?_
          refine pu 2 (some 45) (bts 18 7) (any_of HT_.out (by kernel_rfl)) ?_
          refine pu 3 (some 46) (bts 18 15) (any_of HT_.out (by kernel_rfl)) ?_
          refine pu 4 (some 47) (bts 18 31) (any_of HT_.out (by kernel_rfl)) ?_
          refine pu 6 (some 49) (bts 18 95) (any_of HT_.out (by kernel_rfl)) ?_
          refine pu 10 (some 53) (bts 18 1119) (any_of HT_.out (by kernel_rfl)) ?_
          refine pu 11 (some 54) (bts 18 3167) (any_of HT_.out (by kernel_rfl)) ?_
          refine pu 12 (some 55) (bts 18 7263) (any_of HT_.out (by kernel_rfl)) ?_
          refine pu 13 (some 56) (bts 18 15455) (any_of HT_.out (by kernel_rfl)) ?_
          refine ta 5 (some 48) (bts 18 15487) (take_ofW HT_.out HW_.out (by kernel_rfl)) hHeld ?_
          refine pu 7 (some 50) (bts 18 15615) (any_of HT_.out (by kernel_rfl)) ?_
          refine ta 8 (some 51) (bts 18 15871) (take_ofW HT_.out HW_.out (by kernel_rfl)) hHeld ?_
          refine ta 9 (some 52) (bts 18 16383) (take_ofW HT_.out HW_.out (by kernel_rfl)) hHeld ?_
          refine one_ (i := 14) (N := some 57) (bts 18 32767) rfl rfl (one_of HT_.out (by kernel_rfl)) (by decide) (fun K hK => ?_)
          refine goes_ Tryz.func64 (by kernel_rfl) rfl #[.pointer (some ⟨g, 0, none⟩), .int .i64 a1, .int .i64 (wrap64 (a2 + 1))] (by rfl) rfl rfl lz ?_
          with_reducible refine (ih_expr_Parser_chain k1 (by have := HK1.out; omega) g s0_0 (wrap64 (t656 + 1)) t657 t658 t659 t660 a1 (wrap64 (a2 + 1)) t663 t664 t665 t666 t667 t668 t669 t670 t673 t674 t675 t676 t677 w0 _ ?side1 ?side2 A38.out).mono ?_
          (case side1 => exact hz HI0.out)
          (case side2 => exact bz HB.out)
          rintro e w44 ⟨v671, rfl, ho0, hi, hb, hk⟩
          have HS8_ := keep_cell hk (hHeld.2.2.2.2.2.2.2.2.1) (by first | (rw [add_block]; exact Kd.own_blk (IsS63.own_neN HI0.out HO_7.out (by decide))) | (show (Addr.add _ _).block ≠ _; rw [add_block]; exact Kd.own_blk (IsS63.own_neN HI0.out HO_7.out (by decide))) | exact Kd.own_blk (IsS63.own_neN HI0.out HO_7.out (by decide)))
          have HS9_ := keep_cell hk (hHeld.2.2.2.2.2.2.2.2.2.1) (by first | (rw [add_block]; exact Kd.own_blk (IsS63.own_neN HI0.out HO_7.out (by decide))) | (show (Addr.add _ _).block ≠ _; rw [add_block]; exact Kd.own_blk (IsS63.own_neN HI0.out HO_7.out (by decide))) | exact Kd.own_blk (IsS63.own_neN HI0.out HO_7.out (by decide)))
          have HS10_ := keep_cell hk (hHeld.2.2.2.2.2.2.2.2.2.2.1) (by first | (rw [add_block]; exact Kd.own_blk (IsS63.own_neN HI0.out HO_7.out (by decide))) | (show (Addr.add _ _).block ≠ _; rw [add_block]; exact Kd.own_blk (IsS63.own_neN HI0.out HO_7.out (by decide))) | exact Kd.own_blk (IsS63.own_neN HI0.out HO_7.out (by decide)))
          have HS11_ := keep_cell hk (hHeld.2.2.2.2.2.2.2.2.2.2.2) (by first | (rw [add_block]; exact (vne HL661_1.out 0 t655 (of_eq_true p662) (of_eq_true q662) (by decide) (fun k hk => by rintro rfl; simp at hk))) | (show (Addr.add _ _).block ≠ _; rw [add_block]; exact (vne HL661_1.out 0 t655 (of_eq_true p662) (of_eq_true q662) (by decide) (fun k hk => by rintro rfl; simp at hk))) | exact (vne HL661_1.out 0 t655 (of_eq_true p662) (of_eq_true q662) (by decide) (fun k hk => by rintro rfl; simp at hk)))
          refine ⟨_, rfl, ?_⟩
          replace HO_654007 := Aside0.mk (Kd.V_mono (Kd.V_keep (Kd.V_mono (ok := fun k_ => (((w.heap.size ≤ k_)) ∧ (some k_ ≠ (.slice (some ad654) t620.length co27 : Value).ownBlock ∧ (k_ ≠ gb619 ∧ (k_ ≠ gb653 ∧ k_ ≠ g))))) (vv HO_654007.out) (fun k_ hk_ => (⟨hk_, hk_.2.2.2.2⟩ : _ ∧ k_ ≠ g))) hk (fun _ h => h.2)) (fun _ h => h.1))
          replace HL654_0 := Aside0.mk (Kd.V_mono (Kd.V_keep (Kd.V_mono (ok := fun k_ => (((w.heap.size ≤ k_)) ∧ (some k_ ≠ (.slice (some ad654) t620.length co27 : Value).ownBlock ∧ (k_ ≠ gb619 ∧ (k_ ≠ gb653 ∧ k_ ≠ g))))) (vv HL654_0.out) (fun k_ hk_ => (⟨hk_, hk_.2.2.2.2⟩ : _ ∧ k_ ≠ g))) hk (fun _ h => h.2)) (fun _ h => h.1))
          replace HL654_1 := Aside0.mk (Kd.V_mono (Kd.V_keep (Kd.V_mono (ok := fun k_ => (((w.heap.size ≤ k_)) ∧ (some k_ ≠ (.slice (some ad654) t620.length co27 : Value).ownBlock ∧ (k_ ≠ gb619 ∧ (k_ ≠ gb653 ∧ k_ ≠ g))))) (vv HL654_1.out) (fun k_ hk_ => (⟨hk_, hk_.2.2.2.2⟩ : _ ∧ k_ ≠ g))) hk (fun _ h => h.2)) (fun _ h => h.1))
          replace HL661_0 := Aside0.mk (Kd.V_mono (Kd.V_keep (Kd.V_mono (ok := fun k_ => ((((w.heap.size ≤ k_)) ∧ (k_ ≠ gb619 ∧ (k_ ≠ gb653 ∧ k_ ≠ g))) ∧ some k_ ≠ (.slice (some ad654) t620.length co27 : Value).ownBlock)) (vv HL661_0.out) (fun k_ hk_ => (⟨hk_, hk_.1.2.2.2⟩ : _ ∧ k_ ≠ g))) hk (fun _ h => h.2)) (fun _ h => h.1))
          replace HL661_1 := Aside0.mk (Kd.V_mono (Kd.V_keep (Kd.V_mono (ok := fun k_ => ((((w.heap.size ≤ k_)) ∧ (k_ ≠ gb619 ∧ (k_ ≠ gb653 ∧ k_ ≠ g))) ∧ some k_ ≠ (.slice (some ad654) t620.length co27 : Value).ownBlock)) (vv HL661_1.out) (fun k_ hk_ => (⟨hk_, hk_.1.2.2.2⟩ : _ ∧ k_ ≠ g))) hk (fun _ h => h.2)) (fun _ h => h.1))
          have HO672 := Aside0.mk (Kd.V_lower (Kd.V_mono (ok' := fun k_ => (w.heap.size ≤ k_) ∧ some k_ ≠ (.slice (some ad654) t620.length co27 : Value).ownBlock ∧ k_ ≠ gb619 ∧ k_ ≠ gb653 ∧ k_ ≠ g) ho0 (fun k_ hk_ => ⟨(Nat.le_trans (keep_size (w := w) (g := g) (row := none) (kz HK.out)) hk_), (Kd.fresh' (Kd.N_lt (nn HO_7.out)) k_ hk_), (Kd.freshB (bk BK619.out) k_ hk_), (Kd.freshB (bk BK653.out) k_ hk_), (IsS63.fresh (hz HI0.out) k_ hk_)⟩)) (keep_size (w := w) (g := g) (row := none) (kz HK.out)))
          replace HO_7 := Aside0.mk (Kd.N_mono (Kd.N_keep (Kd.N_mono (ok := fun k_ => (((w.heap.size ≤ k_)) ∧ (k_ ≠ gb619 ∧ (k_ ≠ gb653 ∧ k_ ≠ g)))) (nn HO_7.out) (fun k_ hk_ => (⟨hk_, hk_.2.2.2⟩ : _ ∧ k_ ≠ g))) hk (fun _ h => h.2)) (fun _ h => h.1))
          replace BK619 := Aside0.mk (KeepBut.blk hk (bk BK619.out) NB619_0.out (by simp))
          replace BK653 := Aside0.mk (KeepBut.blk hk (bk BK653.out) NB653_0.out (by simp))
          replace HK := Aside0.mk (KeepBut.trans (kz HK.out) hk (.inl rfl))
          replace HB := Aside0.mk (hb)
          replace HI0 := Aside0.mk (hi)
          (try clear hb)
          (try clear hb2)
          (try clear hk)
          (try clear hi)
          (try clear ho0)
          obtain ⟨Ao45, co45, eo45⟩ := Kd.V_slice HO_654007.out
          (first | subst eo45 | (injection eo45 with f1_ f2_ f3_; have f4_ := f1_.symm; have f5_ := f3_.symm; clear f1_ f2_ f3_; subst f4_; subst f5_))
          obtain ⟨Ao46, co46, eo46⟩ := Kd.V_slice HO672.out
          (first | subst eo46 | (injection eo46 with f1_ f2_ f3_; have f4_ := f1_.symm; have f5_ := f3_.symm; clear f1_ f2_ f3_; subst f4_; subst f5_))
          refine hK.out _ _ ⟨(blk_cell BK653.out 0).trans rfl, (blk_cell BK653.out 1).trans rfl, (blk_cell BK653.out 2).trans rfl, (blk_cell BK653.out 3).trans rfl, (blk_cell BK653.out 4).trans rfl, (blk_cell BK653.out 5).trans rfl, (blk_cell BK653.out 6).trans rfl, (blk_cell BK653.out 7).trans rfl, HS8_, HS9_, HS10_, HS11_⟩ (fun hHeld => ?_)
          clear hK K
          refine norm_ (a' := ?_) ?_ ?_
          rotate_left
          ·show Act.put _ (some 57) _ = _
           simp only [Act.put, List.setIfInBounds_toArray, List.set_cons_zero, List.set_cons_succ, i64_w, i32_w]
           rfl
          refine one_ (i := 15) (N := some 58) (bts 18 65535) rfl rfl (one_of HT_.out (by kernel_rfl)) (by decide) (fun K hK => ?_)
          refine Kd.N_lit_step k31 _ 31 ?hg (N' := 58) ?hd (xs := ([(⟨x654000_1, (⟨x654001_1, (⟨x654002_1, x654003_1⟩ : S23), x654004_1, x654005_1⟩ : S25), x654006_1, x654007_1⟩ : S31), (⟨t663, (⟨t664, (⟨t665, t666⟩ : S23), t667, t668⟩ : S25), t669, t670⟩ : S31)] : List (S31))) (inner := [.int .i64 x654000_1, .int .i64 x654001_1, .int .i64 x654002_1, .int .i64 x654003_1, .string x654004_1, .int .i64 x654005_1, .string x654006_1, .slice Ao45 x654007_1.length co45, .int .i64 t663, .int .i64 t664, .int .i64 t665, .int .i64 t666, .string t667, .int .i64 t668, .string t669, .slice Ao46 t670.length co46]) (ok := (fun k_ => (w.heap.size ≤ k_) ∧ some k_ ≠ (.slice (some ad654) t620.length co27 : Value).ownBlock ∧ k_ ≠ gb619 ∧ k_ ≠ gb653 ∧ k_ ≠ g)) (okp := (fun k_ => (w.heap.size ≤ k_) ∧ some k_ ≠ (.slice (some ad654) t620.length co27 : Value).ownBlock ∧ k_ ≠ gb619 ∧ k_ ≠ gb653 ∧ k_ ≠ g)) ?hr ?hp (fun _ hk => hk) ((show ∀ k_, w44.heap.size ≤ k_ → (fun k_ => (w.heap.size ≤ k_) ∧ some k_ ≠ (.slice (some ad654) t620.length co27 : Value).ownBlock ∧ k_ ≠ gb619 ∧ k_ ≠ gb653 ∧ k_ ≠ g) k_ from fun k_ hk => ⟨(Nat.le_trans (keep_size (w := w) (g := g) (row := none) (kz HK.out)) hk), Kd.fresh' (Kd.N_lt (nn HO_7.out)) k_ hk, Kd.freshB (bk BK619.out) k_ hk, Kd.freshB (bk BK653.out) k_ hk, IsS63.fresh (hz HI0.out) k_ hk⟩) _ (Nat.le_refl _)) (Below.refl _ _) (Nat.le_refl _) (by simp) ?_; (case hd => rfl); (case hg => rfl); (case hr => first | (go_simp; done) | (go_simp; rfl)); (case hp => exact (Reps.c8 (show Kd.FK k31 _ _ (⟨x654000_1, (⟨x654001_1, (⟨x654002_1, x654003_1⟩ : S23), x654004_1, x654005_1⟩ : S25), x654006_1, x654007_1⟩ : S31) [.int .i64 x654000_1, .int .i64 x654001_1, .int .i64 x654002_1, .int .i64 x654003_1, .string x654004_1, .int .i64 x654005_1, .string x654006_1, .slice Ao45 x654007_1.length co45] from (k31_mkF _ _ (⟨x654000_1, (⟨x654001_1, (⟨x654002_1, x654003_1⟩ : S23), x654004_1, x654005_1⟩ : S25), x654006_1, x654007_1⟩ : S31) (Kd.V_reads' (Kd.V_mono (ok' := (fun k_ => (w.heap.size ≤ k_) ∧ some k_ ≠ (.slice (some ad654) t620.length co27 : Value).ownBlock ∧ k_ ≠ gb619 ∧ k_ ≠ gb653 ∧ k_ ≠ g)) (HO_654007.out) (fun k_ hk => ⟨hk.1, ⟨hk.2.1, ⟨hk.2.2.1, ⟨hk.2.2.2.1, hk.2.2.2.2⟩⟩⟩⟩))).2.1 (Kd.V_F (Kd.V_mono (ok' := (fun k_ => (w.heap.size ≤ k_) ∧ some k_ ≠ (.slice (some ad654) t620.length co27 : Value).ownBlock ∧ k_ ≠ gb619 ∧ k_ ≠ gb653 ∧ k_ ≠ g)) (HO_654007.out) (fun k_ hk => ⟨hk.1, ⟨hk.2.1, ⟨hk.2.2.1, ⟨hk.2.2.2.1, hk.2.2.2.2⟩⟩⟩⟩))))) (Reps.c8 (show Kd.FK k31 _ _ (⟨t663, (⟨t664, (⟨t665, t666⟩ : S23), t667, t668⟩ : S25), t669, t670⟩ : S31) [.int .i64 t663, .int .i64 t664, .int .i64 t665, .int .i64 t666, .string t667, .int .i64 t668, .string t669, .slice Ao46 t670.length co46] from (k31_mkF _ _ (⟨t663, (⟨t664, (⟨t665, t666⟩ : S23), t667, t668⟩ : S25), t669, t670⟩ : S31) (Kd.V_reads' (Kd.V_mono (ok' := (fun k_ => (w.heap.size ≤ k_) ∧ some k_ ≠ (.slice (some ad654) t620.length co27 : Value).ownBlock ∧ k_ ≠ gb619 ∧ k_ ≠ gb653 ∧ k_ ≠ g)) (HO672.out) (fun k_ hk => ⟨hk.1, ⟨hk.2.1, ⟨hk.2.2.1, ⟨hk.2.2.2.1, hk.2.2.2.2⟩⟩⟩⟩))).2.1 (Kd.V_F (Kd.V_mono (ok' := (fun k_ => (w.heap.size ≤ k_) ∧ some k_ ≠ (.slice (some ad654) t620.length co27 : Value).ownBlock ∧ k_ ≠ gb619 ∧ k_ ≠ gb653 ∧ k_ ≠ g)) (HO672.out) (fun k_ hk => ⟨hk.1, ⟨hk.2.1, ⟨hk.2.2.1, ⟨hk.2.2.2.1, hk.2.2.2.2⟩⟩⟩⟩))))) (Reps.none _ _))))
          intro v679 w47 ho48 hb hg_ hnew_
          have HS8_ := (hb.cell (World.block_lt_of_cell? _ _ (hHeld.2.2.2.2.2.2.2.2.1))).trans (hHeld.2.2.2.2.2.2.2.2.1)
          have HS9_ := (hb.cell (World.block_lt_of_cell? _ _ (hHeld.2.2.2.2.2.2.2.2.2.1))).trans (hHeld.2.2.2.2.2.2.2.2.2.1)
          have HS10_ := (hb.cell (World.block_lt_of_cell? _ _ (hHeld.2.2.2.2.2.2.2.2.2.2.1))).trans (hHeld.2.2.2.2.2.2.2.2.2.2.1)
          have HS11_ := (hb.cell (World.block_lt_of_cell? _ _ (hHeld.2.2.2.2.2.2.2.2.2.2.2))).trans (hHeld.2.2.2.2.2.2.2.2.2.2.2)
          clear hg_ hnew_
          (first | rw [← Ny678.out] at ho48 | (simp only [Int.reduceToNat] at ho48; rw [← Ny678.out] at ho48))
          replace HO_7 := Aside0.mk (Kd.N_elder' (nn HO_7.out) (Kd.N_base ho48) hb)
          replace HO_654007 := Aside0.mk (Kd.V_elder' (vv HO_654007.out) (Kd.N_base ho48) hb)
          replace HL654_0 := Aside0.mk (Kd.V_elder' (vv HL654_0.out) (Kd.N_base ho48) hb)
          replace HL654_1 := Aside0.mk (Kd.V_elder' (vv HL654_1.out) (Kd.N_base ho48) hb)
          replace HL661_0 := Aside0.mk (Kd.V_elder' (vv HL661_0.out) (Kd.N_base ho48) hb)
          replace HL661_1 := Aside0.mk (Kd.V_elder' (vv HL661_1.out) (Kd.N_base ho48) hb)
          replace HO672 := Aside0.mk (Kd.V_elder' (vv HO672.out) (Kd.N_base ho48) hb)
          have HO680 := Aside0.mk (Kd.N_lower ho48 (keep_size (w := w) (g := g) (row := none) (kz HK.out)))
          replace BK619 := kb BK619 hb
          replace BK653 := kb BK653 hb
          replace HI0 := Aside0.mk (IsS63.below (hz HI0.out) hb)
          replace HK := Aside0.mk (KeepBut.trans (kz HK.out) (KeepBut.of_below hb g none) (.inl rfl))
          replace HB := sb HB hb
          clear hb ho48
          obtain ⟨Ao49, co49, eo49⟩ := Kd.N_slice HO680.out
          (first | subst eo49 | (injection eo49 with f1_ f2_ f3_; have f4_ := f1_.symm; have f5_ := f3_.symm; clear f1_ f2_ f3_; subst f4_; subst f5_))
          refine hK.out _ _ ⟨(blk_cell BK653.out 0).trans rfl, (blk_cell BK653.out 1).trans rfl, (blk_cell BK653.out 2).trans rfl, (blk_cell BK653.out 3).trans rfl, (blk_cell BK653.out 4).trans rfl, (blk_cell BK653.out 5).trans rfl, (blk_cell BK653.out 6).trans rfl, (blk_cell BK653.out 7).trans rfl, HS8_, HS9_, HS10_, HS11_⟩ (fun hHeld => ?_)
          clear hK K
          refine norm_ (a' := ?_) ?_ ?_
          rotate_left
          ·show Act.put _ (some 58) _ = _
           simp only [Act.put, List.setIfInBounds_toArray, List.set_cons_zero, List.set_cons_succ, i64_w, i32_w]
           rfl
          refine one_ (i := 16) (N := some 59) (bts 18 131071) rfl rfl (one_of HT_.out (by kernel_rfl)) (by decide) (fun K hK => ?_)
          refine goes_ Tryz.func66 (by kernel_rfl) rfl #[.pointer (some ⟨g, 0, none⟩), .int .i64 (rd ((rd_T143 t620 a2).f1) t655), .slice Ao49 y678.length co49] (by rfl) rfl rfl lz ?_
          with_reducible refine (expr_Parser_make.calls g s0_0 t673 t674 t675 t676 t677 (rd ((rd_T143 t620 a2).f1) t655) (fun k_ => ((w.heap.size ≤ k_) ∧ (some k_ ≠ (.slice (some ad654) t620.length co27 : Value).ownBlock ∧ (k_ ≠ gb619 ∧ (k_ ≠ gb653 ∧ k_ ≠ g))))) _ _ y678 t681 t682 t683 t684 t685 t686 t687 t688 t691 t692 t693 t694 t695 w0 _ ?side1 ?side2 ?side3 A39.out).mono ?_
          (case side1 => exact hz HI0.out)
          (case side2 => exact bz HB.out)
          (case side3 => exact Kd.V_mono (Kd.N_V (HO680.out)) (fun k_ hk_ => ⟨hk_, hk_.2.2.2.2⟩))
          rintro e w50 ⟨v689, rfl, ho0, hi, hb, hk⟩
          have HS8_ := keep_cell hk (hHeld.2.2.2.2.2.2.2.2.1) (by first | (rw [add_block]; exact Kd.own_blk (IsS63.own_neN HI0.out HO_7.out (by decide))) | (show (Addr.add _ _).block ≠ _; rw [add_block]; exact Kd.own_blk (IsS63.own_neN HI0.out HO_7.out (by decide))) | exact Kd.own_blk (IsS63.own_neN HI0.out HO_7.out (by decide)))
          have HS9_ := keep_cell hk (hHeld.2.2.2.2.2.2.2.2.2.1) (by first | (rw [add_block]; exact Kd.own_blk (IsS63.own_neN HI0.out HO_7.out (by decide))) | (show (Addr.add _ _).block ≠ _; rw [add_block]; exact Kd.own_blk (IsS63.own_neN HI0.out HO_7.out (by decide))) | exact Kd.own_blk (IsS63.own_neN HI0.out HO_7.out (by decide)))
          have HS10_ := keep_cell hk (hHeld.2.2.2.2.2.2.2.2.2.2.1) (by first | (rw [add_block]; exact Kd.own_blk (IsS63.own_neN HI0.out HO_7.out (by decide))) | (show (Addr.add _ _).block ≠ _; rw [add_block]; exact Kd.own_blk (IsS63.own_neN HI0.out HO_7.out (by decide))) | exact Kd.own_blk (IsS63.own_neN HI0.out HO_7.out (by decide)))
          have HS11_ := keep_cell hk (hHeld.2.2.2.2.2.2.2.2.2.2.2) (by first | (rw [add_block]; exact (vne HL661_1.out 0 t655 (of_eq_true p662) (of_eq_true q662) (by decide) (fun k hk => by rintro rfl; simp at hk))) | (show (Addr.add _ _).block ≠ _; rw [add_block]; exact (vne HL661_1.out 0 t655 (of_eq_true p662) (of_eq_true q662) (by decide) (fun k hk => by rintro rfl; simp at hk))) | exact (vne HL661_1.out 0 t655 (of_eq_true p662) (of_eq_true q662) (by decide) (fun k hk => by rintro rfl; simp at hk)))
          refine ⟨_, rfl, ?_⟩
          replace HO_654007 := Aside0.mk (Kd.V_mono (Kd.V_keep (Kd.V_mono (ok := fun k_ => ((((w.heap.size ≤ k_)) ∧ (some k_ ≠ (.slice (some ad654) t620.length co27 : Value).ownBlock ∧ (k_ ≠ gb619 ∧ (k_ ≠ gb653 ∧ k_ ≠ g)))) ∧ some k_ ≠ (.slice Ao49 y678.length co49 : Value).ownBlock)) (vv HO_654007.out) (fun k_ hk_ => (⟨hk_, hk_.1.2.2.2.2⟩ : _ ∧ k_ ≠ g))) hk (fun _ h => h.2)) (fun _ h => h.1))
          replace HL654_0 := Aside0.mk (Kd.V_mono (Kd.V_keep (Kd.V_mono (ok := fun k_ => ((((w.heap.size ≤ k_)) ∧ (some k_ ≠ (.slice (some ad654) t620.length co27 : Value).ownBlock ∧ (k_ ≠ gb619 ∧ (k_ ≠ gb653 ∧ k_ ≠ g)))) ∧ some k_ ≠ (.slice Ao49 y678.length co49 : Value).ownBlock)) (vv HL654_0.out) (fun k_ hk_ => (⟨hk_, hk_.1.2.2.2.2⟩ : _ ∧ k_ ≠ g))) hk (fun _ h => h.2)) (fun _ h => h.1))
          replace HL654_1 := Aside0.mk (Kd.V_mono (Kd.V_keep (Kd.V_mono (ok := fun k_ => ((((w.heap.size ≤ k_)) ∧ (some k_ ≠ (.slice (some ad654) t620.length co27 : Value).ownBlock ∧ (k_ ≠ gb619 ∧ (k_ ≠ gb653 ∧ k_ ≠ g)))) ∧ some k_ ≠ (.slice Ao49 y678.length co49 : Value).ownBlock)) (vv HL654_1.out) (fun k_ hk_ => (⟨hk_, hk_.1.2.2.2.2⟩ : _ ∧ k_ ≠ g))) hk (fun _ h => h.2)) (fun _ h => h.1))
          replace HL661_0 := Aside0.mk (Kd.V_mono (Kd.V_keep (Kd.V_mono (ok := fun k_ => (((((w.heap.size ≤ k_)) ∧ (k_ ≠ gb619 ∧ (k_ ≠ gb653 ∧ k_ ≠ g))) ∧ some k_ ≠ (.slice (some ad654) t620.length co27 : Value).ownBlock) ∧ some k_ ≠ (.slice Ao49 y678.length co49 : Value).ownBlock)) (vv HL661_0.out) (fun k_ hk_ => (⟨hk_, hk_.1.1.2.2.2⟩ : _ ∧ k_ ≠ g))) hk (fun _ h => h.2)) (fun _ h => h.1))
          replace HL661_1 := Aside0.mk (Kd.V_mono (Kd.V_keep (Kd.V_mono (ok := fun k_ => (((((w.heap.size ≤ k_)) ∧ (k_ ≠ gb619 ∧ (k_ ≠ gb653 ∧ k_ ≠ g))) ∧ some k_ ≠ (.slice (some ad654) t620.length co27 : Value).ownBlock) ∧ some k_ ≠ (.slice Ao49 y678.length co49 : Value).ownBlock)) (vv HL661_1.out) (fun k_ hk_ => (⟨hk_, hk_.1.1.2.2.2⟩ : _ ∧ k_ ≠ g))) hk (fun _ h => h.2)) (fun _ h => h.1))
          replace HO672 := Aside0.mk (Kd.V_mono (Kd.V_keep (Kd.V_mono (ok := fun k_ => ((((w.heap.size ≤ k_)) ∧ (some k_ ≠ (.slice (some ad654) t620.length co27 : Value).ownBlock ∧ (k_ ≠ gb619 ∧ (k_ ≠ gb653 ∧ k_ ≠ g)))) ∧ some k_ ≠ (.slice Ao49 y678.length co49 : Value).ownBlock)) (vv HO672.out) (fun k_ hk_ => (⟨hk_, hk_.1.2.2.2.2⟩ : _ ∧ k_ ≠ g))) hk (fun _ h => h.2)) (fun _ h => h.1))
          replace HO680 := Aside0.mk (Kd.N_mono (Kd.N_keep (Kd.N_mono (ok := fun k_ => (((w.heap.size ≤ k_)) ∧ (some k_ ≠ (.slice (some ad654) t620.length co27 : Value).ownBlock ∧ (k_ ≠ gb619 ∧ (k_ ≠ gb653 ∧ k_ ≠ g))))) (nn HO680.out) (fun k_ hk_ => (⟨hk_, hk_.2.2.2.2⟩ : _ ∧ k_ ≠ g))) hk (fun _ h => h.2)) (fun _ h => h.1))
          have HO690 := Aside0.mk (Kd.V_lower (Kd.V_mono (ok' := fun k_ => (w.heap.size ≤ k_) ∧ some k_ ≠ (.slice (some ad654) t620.length co27 : Value).ownBlock ∧ k_ ≠ gb619 ∧ k_ ≠ gb653 ∧ k_ ≠ g) ho0 (fun k_ hk_ => ⟨Or.elim hk_ (fun hs_ => hs_.1) (fun hn_ => (Nat.le_trans (keep_size (w := w) (g := g) (row := none) (kz HK.out)) hn_)), Or.elim hk_ (fun hs_ => hs_.2.1) (fun hn_ => (Kd.fresh' (Kd.N_lt (nn HO_7.out)) k_ hn_)), Or.elim hk_ (fun hs_ => hs_.2.2.1) (fun hn_ => (Kd.freshB (bk BK619.out) k_ hn_)), Or.elim hk_ (fun hs_ => hs_.2.2.2.1) (fun hn_ => (Kd.freshB (bk BK653.out) k_ hn_)), Or.elim hk_ (fun hs_ => hs_.2.2.2.2) (fun hn_ => (IsS63.fresh (hz HI0.out) k_ hn_))⟩)) (keep_size (w := w) (g := g) (row := none) (kz HK.out)))
          replace HO_7 := Aside0.mk (Kd.N_mono (Kd.N_keep (Kd.N_mono (ok := fun k_ => ((((w.heap.size ≤ k_)) ∧ (k_ ≠ gb619 ∧ (k_ ≠ gb653 ∧ k_ ≠ g))) ∧ some k_ ≠ (.slice Ao49 y678.length co49 : Value).ownBlock)) (nn HO_7.out) (fun k_ hk_ => (⟨hk_, hk_.1.2.2.2⟩ : _ ∧ k_ ≠ g))) hk (fun _ h => h.2)) (fun _ h => h.1))
          replace BK619 := Aside0.mk (KeepBut.blk hk (bk BK619.out) NB619_0.out (by simp))
          replace BK653 := Aside0.mk (KeepBut.blk hk (bk BK653.out) NB653_0.out (by simp))
          replace HK := Aside0.mk (KeepBut.trans (kz HK.out) hk (.inl rfl))
          replace HB := Aside0.mk (hb)
          replace HI0 := Aside0.mk (hi)
          (try clear hb)
          (try clear hb2)
          (try clear hk)
          (try clear hi)
          (try clear ho0)
          obtain ⟨Ao58, co58, eo58⟩ := Kd.V_slice HO690.out
          (first | subst eo58 | (injection eo58 with f1_ f2_ f3_; have f4_ := f1_.symm; have f5_ := f3_.symm; clear f1_ f2_ f3_; subst f4_; subst f5_))
          refine hK.out _ _ ⟨(blk_cell BK653.out 0).trans rfl, (blk_cell BK653.out 1).trans rfl, (blk_cell BK653.out 2).trans rfl, (blk_cell BK653.out 3).trans rfl, (blk_cell BK653.out 4).trans rfl, (blk_cell BK653.out 5).trans rfl, (blk_cell BK653.out 6).trans rfl, (blk_cell BK653.out 7).trans rfl, HS8_, HS9_, HS10_, HS11_⟩ (fun hHeld => ?_)
          clear hK K
          refine norm_ (a' := ?_) ?_ ?_
          rotate_left
          ·show Act.put _ (some 59) _ = _
           simp only [Act.put, List.setIfInBounds_toArray, List.set_cons_zero, List.set_cons_succ, i64_w, i32_w]
           rfl
          refine last_ (i := 17) (N := none) #[true, true, true, true, true, true, true, true, true, true, true, true, true, true, true, true, true, true] rfl rfl (one_of HT_.out (by kernel_rfl)) (by decide) (fun K hK => ?_)
          have hs51 : w50.cell? ⟨gb653, 0, none⟩ = some (.int .i64 x654000_1) := (blk_cell BK653.out 0).trans rfl
          have hfs51 := blk_frozen BK653.out 0
          have hns51_0 := NB619_653.out
          have hms51_0 := NB653_619.out
          have hs52 : w50.cell? ⟨gb653, 1, none⟩ = some (.int .i64 x654001_1) := (blk_cell BK653.out 1).trans rfl
          have hfs52 := blk_frozen BK653.out 1
          have hns52_0 := NB619_653.out
          have hms52_0 := NB653_619.out
          have hs53 : w50.cell? ⟨gb653, 2, none⟩ = some (.int .i64 x654002_1) := (blk_cell BK653.out 2).trans rfl
          have hfs53 := blk_frozen BK653.out 2
          have hns53_0 := NB619_653.out
          have hms53_0 := NB653_619.out
          have hs54 : w50.cell? ⟨gb653, 3, none⟩ = some (.int .i64 x654003_1) := (blk_cell BK653.out 3).trans rfl
          have hfs54 := blk_frozen BK653.out 3
          have hns54_0 := NB619_653.out
          have hms54_0 := NB653_619.out
          have hs55 : w50.cell? ⟨gb653, 4, none⟩ = some (.string x654004_1) := (blk_cell BK653.out 4).trans rfl
          have hfs55 := blk_frozen BK653.out 4
          have hns55_0 := NB619_653.out
          have hms55_0 := NB653_619.out
          have hs56 : w50.cell? ⟨gb653, 5, none⟩ = some (.int .i64 x654005_1) := (blk_cell BK653.out 5).trans rfl
          have hfs56 := blk_frozen BK653.out 5
          have hns56_0 := NB619_653.out
          have hms56_0 := NB653_619.out
          have hs57 : w50.cell? ⟨gb653, 6, none⟩ = some (.string x654006_1) := (blk_cell BK653.out 6).trans rfl
          have hfs57 := blk_frozen BK653.out 6
          have hns57_0 := NB619_653.out
          have hms57_0 := NB653_619.out
          have hs59 : w50.cell? ⟨gb653, 7, none⟩ = some (.slice Ao45 x654007_1.length co45) := (blk_cell BK653.out 7).trans rfl
          have hfs59 := blk_frozen BK653.out 7
          have hns59_0 := NB619_653.out
          have hms59_0 := NB653_619.out
          refine skip_ (w1 := ?_) (by rfl) rfl ?_ ?_
          rotate_left
          ·go_simp
           rfl
          refine hK.out _ _ ?_
          clear hK K
          refine done_ (done_of HT_.out (by kernel_rfl)) ?_
          have n0_ : Aside0 (Kd.N k143 143 ((((((((w50.setCell ⟨gb653, 0, none⟩ (.int .i64 t681)).setCell ⟨gb653, 1, none⟩ (.int .i64 t682)).setCell ⟨gb653, 2, none⟩ (.int .i64 t683)).setCell ⟨gb653, 3, none⟩ (.int .i64 t684)).setCell ⟨gb653, 4, none⟩ (.string t685)).setCell ⟨gb653, 5, none⟩ (.int .i64 t686)).setCell ⟨gb653, 6, none⟩ (.string t687)).setCell ⟨gb653, 7, none⟩ (.slice Ao58 t688.length co58)) w.heap.size (fun k_ => (w.heap.size ≤ k_) ∧ some k_ ≠ (.slice Ao49 y678.length co49 : Value).ownBlock ∧ k_ ≠ gb619 ∧ k_ ≠ gb653 ∧ k_ ≠ g) (.slice (some ad654) t620.length co27) t620) := ⟨vfN (Kd.N_mono HO_7.out (fun k_ hk => (⟨hk, hk.1.2.2.1⟩ : _ ∧ k_ ≠ gb653)))⟩
          have n1_ : Aside0 (Kd.V k31 31 ((((((((w50.setCell ⟨gb653, 0, none⟩ (.int .i64 t681)).setCell ⟨gb653, 1, none⟩ (.int .i64 t682)).setCell ⟨gb653, 2, none⟩ (.int .i64 t683)).setCell ⟨gb653, 3, none⟩ (.int .i64 t684)).setCell ⟨gb653, 4, none⟩ (.string t685)).setCell ⟨gb653, 5, none⟩ (.int .i64 t686)).setCell ⟨gb653, 6, none⟩ (.string t687)).setCell ⟨gb653, 7, none⟩ (.slice Ao58 t688.length co58)) w.heap.size (fun k_ => (w.heap.size ≤ k_) ∧ some k_ ≠ (.slice (some ad654) t620.length co27 : Value).ownBlock ∧ some k_ ≠ (.slice Ao49 y678.length co49 : Value).ownBlock ∧ k_ ≠ gb619 ∧ k_ ≠ gb653 ∧ k_ ≠ g) (.slice Ao45 x654007_1.length co45) x654007_1) := ⟨vfV (Kd.V_mono HO_654007.out (fun k_ hk => (⟨hk, hk.1.2.2.2.1⟩ : _ ∧ k_ ≠ gb653)))⟩
          have n2_ : Aside0 (Kd.V Kd.string 9 ((((((((w50.setCell ⟨gb653, 0, none⟩ (.int .i64 t681)).setCell ⟨gb653, 1, none⟩ (.int .i64 t682)).setCell ⟨gb653, 2, none⟩ (.int .i64 t683)).setCell ⟨gb653, 3, none⟩ (.int .i64 t684)).setCell ⟨gb653, 4, none⟩ (.string t685)).setCell ⟨gb653, 5, none⟩ (.int .i64 t686)).setCell ⟨gb653, 6, none⟩ (.string t687)).setCell ⟨gb653, 7, none⟩ (.slice Ao58 t688.length co58)) w.heap.size (fun k_ => (w.heap.size ≤ k_) ∧ some k_ ≠ (.slice (some ad654) t620.length co27 : Value).ownBlock ∧ some k_ ≠ (.slice Ao49 y678.length co49 : Value).ownBlock ∧ k_ ≠ gb619 ∧ k_ ≠ gb653 ∧ k_ ≠ g) (.slice A654_0 ((rd_T143 t620 a2).f0).length c654_0) ((rd_T143 t620 a2).f0)) := ⟨vfV (Kd.V_mono HL654_0.out (fun k_ hk => (⟨hk, hk.1.2.2.2.1⟩ : _ ∧ k_ ≠ gb653)))⟩
          have n3_ : Aside0 (Kd.V (Kd.int .i64) 3 ((((((((w50.setCell ⟨gb653, 0, none⟩ (.int .i64 t681)).setCell ⟨gb653, 1, none⟩ (.int .i64 t682)).setCell ⟨gb653, 2, none⟩ (.int .i64 t683)).setCell ⟨gb653, 3, none⟩ (.int .i64 t684)).setCell ⟨gb653, 4, none⟩ (.string t685)).setCell ⟨gb653, 5, none⟩ (.int .i64 t686)).setCell ⟨gb653, 6, none⟩ (.string t687)).setCell ⟨gb653, 7, none⟩ (.slice Ao58 t688.length co58)) w.heap.size (fun k_ => (w.heap.size ≤ k_) ∧ some k_ ≠ (.slice (some ad654) t620.length co27 : Value).ownBlock ∧ some k_ ≠ (.slice Ao49 y678.length co49 : Value).ownBlock ∧ k_ ≠ gb619 ∧ k_ ≠ gb653 ∧ k_ ≠ g) (.slice A654_1 ((rd_T143 t620 a2).f1).length c654_1) ((rd_T143 t620 a2).f1)) := ⟨vfV (Kd.V_mono HL654_1.out (fun k_ hk => (⟨hk, hk.1.2.2.2.1⟩ : _ ∧ k_ ≠ gb653)))⟩
          have n4_ : Aside0 (Kd.V Kd.string 9 ((((((((w50.setCell ⟨gb653, 0, none⟩ (.int .i64 t681)).setCell ⟨gb653, 1, none⟩ (.int .i64 t682)).setCell ⟨gb653, 2, none⟩ (.int .i64 t683)).setCell ⟨gb653, 3, none⟩ (.int .i64 t684)).setCell ⟨gb653, 4, none⟩ (.string t685)).setCell ⟨gb653, 5, none⟩ (.int .i64 t686)).setCell ⟨gb653, 6, none⟩ (.string t687)).setCell ⟨gb653, 7, none⟩ (.slice Ao58 t688.length co58)) w.heap.size (fun k_ => (w.heap.size ≤ k_) ∧ some k_ ≠ (.slice (some ad654) t620.length co27 : Value).ownBlock ∧ some k_ ≠ (.slice Ao49 y678.length co49 : Value).ownBlock ∧ k_ ≠ gb619 ∧ k_ ≠ gb653 ∧ k_ ≠ g) (.slice A661_0 ((rd_T143 t620 a2).f0).length c661_0) ((rd_T143 t620 a2).f0)) := ⟨vfV (Kd.V_mono HL661_0.out (fun k_ hk => (⟨hk, hk.1.1.2.2.1⟩ : _ ∧ k_ ≠ gb653)))⟩
          have n5_ : Aside0 (Kd.V (Kd.int .i64) 3 ((((((((w50.setCell ⟨gb653, 0, none⟩ (.int .i64 t681)).setCell ⟨gb653, 1, none⟩ (.int .i64 t682)).setCell ⟨gb653, 2, none⟩ (.int .i64 t683)).setCell ⟨gb653, 3, none⟩ (.int .i64 t684)).setCell ⟨gb653, 4, none⟩ (.string t685)).setCell ⟨gb653, 5, none⟩ (.int .i64 t686)).setCell ⟨gb653, 6, none⟩ (.string t687)).setCell ⟨gb653, 7, none⟩ (.slice Ao58 t688.length co58)) w.heap.size (fun k_ => (w.heap.size ≤ k_) ∧ some k_ ≠ (.slice (some ad654) t620.length co27 : Value).ownBlock ∧ some k_ ≠ (.slice Ao49 y678.length co49 : Value).ownBlock ∧ k_ ≠ gb619 ∧ k_ ≠ gb653 ∧ k_ ≠ g) (.slice (some ad662) ((rd_T143 t620 a2).f1).length c661_1) ((rd_T143 t620 a2).f1)) := ⟨vfV (Kd.V_mono HL661_1.out (fun k_ hk => (⟨hk, hk.1.1.2.2.1⟩ : _ ∧ k_ ≠ gb653)))⟩
          have n6_ : Aside0 (Kd.V k31 31 ((((((((w50.setCell ⟨gb653, 0, none⟩ (.int .i64 t681)).setCell ⟨gb653, 1, none⟩ (.int .i64 t682)).setCell ⟨gb653, 2, none⟩ (.int .i64 t683)).setCell ⟨gb653, 3, none⟩ (.int .i64 t684)).setCell ⟨gb653, 4, none⟩ (.string t685)).setCell ⟨gb653, 5, none⟩ (.int .i64 t686)).setCell ⟨gb653, 6, none⟩ (.string t687)).setCell ⟨gb653, 7, none⟩ (.slice Ao58 t688.length co58)) w.heap.size (fun k_ => (w.heap.size ≤ k_) ∧ some k_ ≠ (.slice (some ad654) t620.length co27 : Value).ownBlock ∧ some k_ ≠ (.slice Ao49 y678.length co49 : Value).ownBlock ∧ k_ ≠ gb619 ∧ k_ ≠ gb653 ∧ k_ ≠ g) (.slice Ao46 t670.length co46) t670) := ⟨vfV (Kd.V_mono HO672.out (fun k_ hk => (⟨hk, hk.1.2.2.2.1⟩ : _ ∧ k_ ≠ gb653)))⟩
          have n7_ : Aside0 (Kd.N k31 31 ((((((((w50.setCell ⟨gb653, 0, none⟩ (.int .i64 t681)).setCell ⟨gb653, 1, none⟩ (.int .i64 t682)).setCell ⟨gb653, 2, none⟩ (.int .i64 t683)).setCell ⟨gb653, 3, none⟩ (.int .i64 t684)).setCell ⟨gb653, 4, none⟩ (.string t685)).setCell ⟨gb653, 5, none⟩ (.int .i64 t686)).setCell ⟨gb653, 6, none⟩ (.string t687)).setCell ⟨gb653, 7, none⟩ (.slice Ao58 t688.length co58)) w.heap.size (fun k_ => (w.heap.size ≤ k_) ∧ some k_ ≠ (.slice (some ad654) t620.length co27 : Value).ownBlock ∧ k_ ≠ gb619 ∧ k_ ≠ gb653 ∧ k_ ≠ g) (.slice Ao49 y678.length co49) y678) := ⟨vfN HO680.out⟩
          have n8_ : Aside0 (Kd.V k31 31 ((((((((w50.setCell ⟨gb653, 0, none⟩ (.int .i64 t681)).setCell ⟨gb653, 1, none⟩ (.int .i64 t682)).setCell ⟨gb653, 2, none⟩ (.int .i64 t683)).setCell ⟨gb653, 3, none⟩ (.int .i64 t684)).setCell ⟨gb653, 4, none⟩ (.string t685)).setCell ⟨gb653, 5, none⟩ (.int .i64 t686)).setCell ⟨gb653, 6, none⟩ (.string t687)).setCell ⟨gb653, 7, none⟩ (.slice Ao58 t688.length co58)) w.heap.size (fun k_ => (w.heap.size ≤ k_) ∧ some k_ ≠ (.slice (some ad654) t620.length co27 : Value).ownBlock ∧ k_ ≠ gb619 ∧ k_ ≠ gb653 ∧ k_ ≠ g) (.slice Ao58 t688.length co58) t688) := ⟨vfV HO690.out⟩
          have n9_ : Aside0 (((((((((w50.setCell ⟨gb653, 0, none⟩ (.int .i64 t681)).setCell ⟨gb653, 1, none⟩ (.int .i64 t682)).setCell ⟨gb653, 2, none⟩ (.int .i64 t683)).setCell ⟨gb653, 3, none⟩ (.int .i64 t684)).setCell ⟨gb653, 4, none⟩ (.string t685)).setCell ⟨gb653, 5, none⟩ (.int .i64 t686)).setCell ⟨gb653, 6, none⟩ (.string t687)).setCell ⟨gb653, 7, none⟩ (.slice Ao58 t688.length co58)).heap[gb619]? = some (.cells #[.int .i64 0, .int .i64 0, .int .i64 0, .int .i64 0, .string (⟨#[]⟩ : ByteArray), .int .i64 0, .string (⟨#[]⟩ : ByteArray), .slice none 0 0] 31 (0, 0))) := ⟨bp BK619.out⟩
          have n10_ : Aside0 (((((((((w50.setCell ⟨gb653, 0, none⟩ (.int .i64 t681)).setCell ⟨gb653, 1, none⟩ (.int .i64 t682)).setCell ⟨gb653, 2, none⟩ (.int .i64 t683)).setCell ⟨gb653, 3, none⟩ (.int .i64 t684)).setCell ⟨gb653, 4, none⟩ (.string t685)).setCell ⟨gb653, 5, none⟩ (.int .i64 t686)).setCell ⟨gb653, 6, none⟩ (.string t687)).setCell ⟨gb653, 7, none⟩ (.slice Ao58 t688.length co58)).heap[gb653]? = some (.cells #[.int .i64 t681, .int .i64 t682, .int .i64 t683, .int .i64 t684, .string t685, .int .i64 t686, .string t687, .slice Ao58 t688.length co58] 31 (0, 0))) := ⟨bp BK653.out⟩
          have n11_ : Aside0 (IsS63 w0 ((((((((w50.setCell ⟨gb653, 0, none⟩ (.int .i64 t681)).setCell ⟨gb653, 1, none⟩ (.int .i64 t682)).setCell ⟨gb653, 2, none⟩ (.int .i64 t683)).setCell ⟨gb653, 3, none⟩ (.int .i64 t684)).setCell ⟨gb653, 4, none⟩ (.string t685)).setCell ⟨gb653, 5, none⟩ (.int .i64 t686)).setCell ⟨gb653, 6, none⟩ (.string t687)).setCell ⟨gb653, 7, none⟩ (.slice Ao58 t688.length co58)) g s0_0 t691 t692 t693 t694 t695) := ⟨hz HI0.out⟩
          have n12_ : Aside0 (KeepBut w ((((((((w50.setCell ⟨gb653, 0, none⟩ (.int .i64 t681)).setCell ⟨gb653, 1, none⟩ (.int .i64 t682)).setCell ⟨gb653, 2, none⟩ (.int .i64 t683)).setCell ⟨gb653, 3, none⟩ (.int .i64 t684)).setCell ⟨gb653, 4, none⟩ (.string t685)).setCell ⟨gb653, 5, none⟩ (.int .i64 t686)).setCell ⟨gb653, 6, none⟩ (.string t687)).setCell ⟨gb653, 7, none⟩ (.slice Ao58 t688.length co58)) g none) := ⟨kz HK.out⟩
          have n13_ : Aside0 (Below w0.heap.size w0 ((((((((w50.setCell ⟨gb653, 0, none⟩ (.int .i64 t681)).setCell ⟨gb653, 1, none⟩ (.int .i64 t682)).setCell ⟨gb653, 2, none⟩ (.int .i64 t683)).setCell ⟨gb653, 3, none⟩ (.int .i64 t684)).setCell ⟨gb653, 4, none⟩ (.string t685)).setCell ⟨gb653, 5, none⟩ (.int .i64 t686)).setCell ⟨gb653, 6, none⟩ (.string t687)).setCell ⟨gb653, 7, none⟩ (.slice Ao58 t688.length co58))) := ⟨bz HB.out⟩
          (try clear HO_7)
          (try clear HO_654007)
          (try clear HL654_0)
          (try clear HL654_1)
          (try clear HL661_0)
          (try clear HL661_1)
          (try clear HO672)
          (try clear HO680)
          (try clear HO690)
          (try clear BK619)
          (try clear BK653)
          (try clear HI0)
          (try clear HK)
          (try clear HB)
          generalize ((((((((w50.setCell ⟨gb653, 0, none⟩ (.int .i64 t681)).setCell ⟨gb653, 1, none⟩ (.int .i64 t682)).setCell ⟨gb653, 2, none⟩ (.int .i64 t683)).setCell ⟨gb653, 3, none⟩ (.int .i64 t684)).setCell ⟨gb653, 4, none⟩ (.string t685)).setCell ⟨gb653, 5, none⟩ (.int .i64 t686)).setCell ⟨gb653, 6, none⟩ (.string t687)).setCell ⟨gb653, 7, none⟩ (.slice Ao58 t688.length co58)) = w60 at n0_ n1_ n2_ n3_ n4_ n5_ n6_ n7_ n8_ n9_ n10_ n11_ n12_ n13_ ⊢
          have HO_7 := n0_
          have HO_654007 := n1_
          have HL654_0 := n2_
          have HL654_1 := n3_
          have HL661_0 := n4_
          have HL661_1 := n5_
          have HO672 := n6_
          have HO680 := n7_
          have HO690 := n8_
          have BK619 := n9_
          have BK653 := n10_
          have HI0 := n11_
          have HK := n12_
          have HB := n13_
          clear n0_ n1_ n2_ n3_ n4_ n5_ n6_ n7_ n8_ n9_ n10_ n11_ n12_ n13_
          have p696 : 0 ≤ (a2 : Int) := of_decide_eq_true tz
          have q696 : a2 < (t620.length : Int) := of_decide_eq_true tz
          obtain ⟨ad696, A696_0, c696_0, A696_1, c696_1, e696, hx696_0, hx696_1, hx696_2, hl696_0, hi696_0, hl696_1, hi696_1⟩ := at_T143 (Kd.N_reads' HO_7.out).2.2 a2 p696 q696
          obtain rfl : ad654 = ad696 := (by injection e696)
          obtain ⟨ce696, hce696, hMe696, hcc696⟩ := Kd.N_get HO_7.out z143 a2 p696 (by first | exact q696 | exact of_decide_eq_true tz | (have e_ := (Kd.N_reads' HO_7.out).1; omega))
          obtain ⟨ua696_0, uc696_0, ua696_1, uc696_1, rfl, ul696_0, ge696_0, ul696_1, ge696_1⟩ := k143_openF hMe696
          have hv696_0 := hcc696 0 _ rfl
          rw [Nat.add_zero] at hv696_0
          replace hv696_0 := Option.some.inj (hv696_0.symm.trans hx696_0)
          injection hv696_0 with hva_ hvn_ hvc_
          rw [hva_] at ge696_0
          rw [hvc_] at ul696_0
          have HL696_0 := Aside0.mk (show Kd.V Kd.string 9 _ w.heap.size _ _ ((rd_T143 t620 a2).f0) from Kd.V_mk ul696_0 ge696_0)
          clear hva_ hvn_ hvc_ ge696_0 ul696_0
          have hv696_1 := hcc696 1 _ rfl
          rw [add_field _ _ 1 (by omega)] at hv696_1
          replace hv696_1 := Option.some.inj (hv696_1.symm.trans hx696_1)
          injection hv696_1 with hva_ hvn_ hvc_
          rw [hva_] at ge696_1
          rw [hvc_] at ul696_1
          have HL696_1 := Aside0.mk (show Kd.V (Kd.int .i64) 3 _ w.heap.size _ _ ((rd_T143 t620 a2).f1) from Kd.V_mk ul696_1 ge696_1)
          clear hva_ hvn_ hvc_ ge696_1 ul696_1
          have HR696_0 := Aside0.mk hi696_0
          have HC696_0 := Aside0.mk hl696_0
          clear hi696_0 hl696_0
          have HR696_1 := Aside0.mk hi696_1
          have HC696_1 := Aside0.mk hl696_1
          clear hi696_1 hl696_1
          replace p696 := eq_true p696
          replace q696 := eq_true q696
          go_upto_if 64 with (fail)
          have H := HC40.out
          clear HC40
          clear Z41_0 Z41_1 Z41_2 Z41_3 Z41_4 Z41_5 F41_1 F41_2 F41_3 F41_4 F41_5 hx661_0 hx662_0 hx696_0 hx661_1 hx661_2 hx696_1 hx696_2
          obtain ⟨bq61, hbq61⟩ : ∃ b_ : Bool, b_ = ((rd_T143 t620 a2).f2) := ⟨_, rfl⟩
          replace H : (if bq61 = true then (some (t681, t682, t683, t684, t685, t686, t687, t688, t691, t692, t693, t694, t695)) else (expr_Parser_chain.l0 k1 a1 a2 t620 s0_0 t691 t692 t693 t694 t695 t681 t682 t683 t684 t685 t686 t687 t688)) = some (r1, r2, r3, r4, r5, r6, r7, r8, r9, r10, r11, r12, r13) := by rw [← hbq61] at H; exact H
          have Nbq61 := Aside0.mk hbq61
          clear hbq61
          (try rw [← Nbq61.out])
          by_cases c62 : bq61 = true
          ·subst c62
           have H1 : (some (t681, t682, t683, t684, t685, t686, t687, t688, t691, t692, t693, t694, t695)) = some (r1, r2, r3, r4, r5, r6, r7, r8, r9, r10, r11, r12, r13) := by rw [if_pos rfl] at H; exact H
           clear H
           have H := H1
           clear H1
           simp only [Option.some.injEq, Prod.mk.injEq] at H
           obtain ⟨rfl, rfl, rfl, rfl, rfl, rfl, rfl, rfl, rfl, rfl, rfl, rfl, rfl⟩ := H
           have hnb63 := NB653_619.out
           have hnc63 := NB619_653.out
           have hnb64 := NB653_0.out
           have hnc64 := NB0_653.out
           obtain ⟨Z65_0, Z65_1, Z65_2, Z65_3, Z65_4, Z65_5, Z65_6, Z65_7, F65_0, F65_1, F65_2, F65_3, F65_4, F65_5, F65_6, F65_7⟩ := cz8 BK653.out
           have hnb66 := NB619_0.out
           have hnc66 := NB0_619.out
           obtain ⟨Z67_0, Z67_1, Z67_2, Z67_3, Z67_4, Z67_5, Z67_6, Z67_7, F67_0, F67_1, F67_2, F67_3, F67_4, F67_5, F67_6, F67_7⟩ := cz8 BK619.out
           go_wp2
           refine bodyPost_ret (results_cell_row rfl _ _ gb619 31 #[.int .i64 t681, .int .i64 t682, .int .i64 t683, .int .i64 t684, .string t685, .int .i64 t686, .string t687, .slice Ao58 t688.length co58] (0, 0) _ rfl (bp BK619.out) Tryz.underlying31 rfl (by kernel_rfl)) rfl ?_
           exact ⟨_, az, by (with_reducible repeat (first | apply Kd.V_alloc | apply Kd.V_drewN | apply Kd.V_drew)); exact Kd.V_mono (Kd.V_far (p := ⟨gb619, 7, none⟩) (Kd.V_far (p := ⟨gb619, 6, none⟩) (Kd.V_far (p := ⟨gb619, 5, none⟩) (Kd.V_far (p := ⟨gb619, 4, none⟩) (Kd.V_far (p := ⟨gb619, 3, none⟩) (Kd.V_far (p := ⟨gb619, 2, none⟩) (Kd.V_far (p := ⟨gb619, 1, none⟩) (Kd.V_far (p := ⟨gb619, 0, none⟩) (Kd.V_mono HO690.out (fun k_ hk => (⟨hk, hk.2.2.1⟩ : _ ∧ k_ ≠ gb619))) (fun _ hk => hk.2) (.int .i64 t681)) (fun _ hk => hk.2) (.int .i64 t682)) (fun _ hk => hk.2) (.int .i64 t683)) (fun _ hk => hk.2) (.int .i64 t684)) (fun _ hk => hk.2) (.string t685)) (fun _ hk => hk.2) (.int .i64 t686)) (fun _ hk => hk.2) (.string t687)) (fun _ hk => hk.2) (.slice Ao58 t688.length co58)) (fun _ hk => hk.1.1), hz HI0.out, bz HB.out, kz HK.out⟩
          ·replace c62 := Bool.eq_false_iff.mpr c62
           subst c62
           have H1 : (expr_Parser_chain.l0 k1 a1 a2 t620 s0_0 t691 t692 t693 t694 t695 t681 t682 t683 t684 t685 t686 t687 t688) = some (r1, r2, r3, r4, r5, r6, r7, r8, r9, r10, r11, r12, r13) := by rw [if_neg (show ¬ (false = true) by decide)] at H; exact H
           clear H
           have H := H1
           clear H1
           have H' := Aside0.mk H
           clear H
           go_wp2
           go_roundg k1
           case measure => have := HK1.out; omega
           case rel => exact ⟨(t691), (t692), (t693), (t694), (t695), (t681), (t682), (t683), (t684), (t685), (t686), (t687), (t688), (.slice Ao58 t688.length co58), H', ⟨by have := HK1.out; omega⟩, ⟨by (with_reducible repeat (first | apply Kd.N_alloc | apply Kd.N_drewN | apply Kd.N_drew)); exact Kd.N_mono HO_7.out (fun _ hk => ⟨hk.1, ⟨hk.2.2.1, ⟨hk.2.2.2.1, hk.2.2.2.2⟩⟩⟩)⟩, ⟨vv HO690.out⟩, ⟨bk BK619.out⟩, ⟨bk BK653.out⟩, ⟨hz HI0.out⟩, ⟨kz HK.out⟩, ⟨bz HB.out⟩⟩
         ·rw [if_neg c37] at H
          exact absurd H (by simp)
        ·rw [if_neg c36] at H
         exact absurd H (by simp)
      ·rw [if_neg c23] at H
       exact absurd H (by simp)
     ·rw [if_neg c22] at H
      exact absurd H (by simp)
    ·rw [if_neg c21] at H
     exact absurd H (by simp)
end Go.Proofs.YtgkemhgihbfmmaaGreatDoor.PA
end
section
namespace Go.Proofs.YtgkemhgihbfmmaaGreatDoor.PA
open Go.RowKit Go.Proofs.YtgkemhgihbfmmaaGreatDoorW.PrintWords Go.Proofs.YtgkemhgihbfmmaaGreatDoorW.PrintLast Go.Proofs.YtgkemhgihbfmmaaGreatDoorW.PrintMore
attribute [local go_sem] max2_int min2_int max_two min_two max_three min_three max_four min_four isSome_set str_gtr
set_option linter.unusedVariables false
set_option linter.unusedSimpArgs false
def expr_Parser_Expr.T9 : Bool × List (List Nat × List Nat) := (true, [([], []), ([], []), ([], []), ([], []), ([], []), ([3, 4], [3, 4]), ([1, 2, 5], [1, 2, 5]), ([0, 6, 5], [0, 6]), ([7, 7, 0, 1, 2, 3, 4, 5, 6, 7], [7])])
def expr_Parser_Expr.B9 : List Nat := [0, 0, 0, 0, 0, 24, 62, 127, 255]
theorem expr_Parser_Expr.tab9 : rtab .any (opsOf Tryz.f31 9) = expr_Parser_Expr.T9 := by kernel_rfl
theorem expr_Parser_Expr.bits9 : waitsOk expr_Parser_Expr.T9.2 expr_Parser_Expr.B9 = true := by kernel_rfl
set_option maxHeartbeats 8000000 in
set_option maxRecDepth 100000 in
theorem expr_Parser_Expr.step (k : Nat) (ih_expr_Parser_prefix : ∀ k', k' < k → ∀ (g : Nat) (s0_0 : List (S136)) (s0_1 : Int) (s0_2 : Int) (s0_3 : Int) (s0_4 : Int) (s0_5 : Int) (a1 : Int) (r1 : Int) (r2 : Int) (r3 : Int) (r4 : Int) (r5 : ByteArray) (r6 : Int) (r7 : ByteArray) (r8 : List (S31)) (r9 : Int) (r10 : Int) (r11 : Int) (r12 : Int) (r13 : Int) (w0 w : World) (hI : IsS63 w0 w g s0_0 s0_1 s0_2 s0_3 s0_4 s0_5) (hB : Below w0.heap.size w0 w) (h : expr_Parser_prefix.f k' s0_0 s0_1 s0_2 s0_3 s0_4 s0_5 a1 = some (r1, r2, r3, r4, r5, r6, r7, r8, r9, r10, r11, r12, r13)),
  Calls Tryz.prog 109 #[.pointer (some ⟨g, 0, none⟩), .int .i64 a1] w fun e w' => ∃ v7_ : Value, e = .returned (.agg #[.int .i64 r1, .int .i64 r2, .int .i64 r3, .int .i64 r4, .string r5, .int .i64 r6, .string r7, v7_]) ∧ Kd.V k31 31 w' w.heap.size (fun k_ => (w.heap.size ≤ k_)) v7_ r8 ∧ IsS63 w0 w' g s0_0 r9 r10 r11 r12 r13 ∧ Below w0.heap.size w0 w' ∧ KeepBut w w' g none) (ih_expr_Parser_chain : ∀ k', k' < k → ∀ (g : Nat) (s0_0 : List (S136)) (s0_1 : Int) (s0_2 : Int) (s0_3 : Int) (s0_4 : Int) (s0_5 : Int) (a1 : Int) (a2 : Int) (r1 : Int) (r2 : Int) (r3 : Int) (r4 : Int) (r5 : ByteArray) (r6 : Int) (r7 : ByteArray) (r8 : List (S31)) (r9 : Int) (r10 : Int) (r11 : Int) (r12 : Int) (r13 : Int) (w0 w : World) (hI : IsS63 w0 w g s0_0 s0_1 s0_2 s0_3 s0_4 s0_5) (hB : Below w0.heap.size w0 w) (h : expr_Parser_chain.f k' s0_0 s0_1 s0_2 s0_3 s0_4 s0_5 a1 a2 = some (r1, r2, r3, r4, r5, r6, r7, r8, r9, r10, r11, r12, r13)),
  Calls Tryz.prog 64 #[.pointer (some ⟨g, 0, none⟩), .int .i64 a1, .int .i64 a2] w fun e w' => ∃ v7_ : Value, e = .returned (.agg #[.int .i64 r1, .int .i64 r2, .int .i64 r3, .int .i64 r4, .string r5, .int .i64 r6, .string r7, v7_]) ∧ Kd.V k31 31 w' w.heap.size (fun k_ => (w.heap.size ≤ k_)) v7_ r8 ∧ IsS63 w0 w' g s0_0 r9 r10 r11 r12 r13 ∧ Below w0.heap.size w0 w' ∧ KeepBut w w' g none) (ih_expr_Parser_Expr : ∀ k', k' < k → ∀ (g : Nat) (s0_0 : List (S136)) (s0_1 : Int) (s0_2 : Int) (s0_3 : Int) (s0_4 : Int) (s0_5 : Int) (a1 : Int) (r1 : Int) (r2 : Int) (r3 : Int) (r4 : Int) (r5 : ByteArray) (r6 : Int) (r7 : ByteArray) (r8 : List (S31)) (r9 : Int) (r10 : Int) (r11 : Int) (r12 : Int) (r13 : Int) (w0 w : World) (hI : IsS63 w0 w g s0_0 s0_1 s0_2 s0_3 s0_4 s0_5) (hB : Below w0.heap.size w0 w) (h : expr_Parser_Expr.f k' s0_0 s0_1 s0_2 s0_3 s0_4 s0_5 a1 = some (r1, r2, r3, r4, r5, r6, r7, r8, r9, r10, r11, r12, r13)),
  Calls Tryz.prog 31 #[.pointer (some ⟨g, 0, none⟩), .int .i64 a1] w fun e w' => ∃ v7_ : Value, e = .returned (.agg #[.int .i64 r1, .int .i64 r2, .int .i64 r3, .int .i64 r4, .string r5, .int .i64 r6, .string r7, v7_]) ∧ Kd.V k31 31 w' w.heap.size (fun k_ => (w.heap.size ≤ k_)) v7_ r8 ∧ IsS63 w0 w' g s0_0 r9 r10 r11 r12 r13 ∧ Below w0.heap.size w0 w' ∧ KeepBut w w' g none) : ∀ (g : Nat) (s0_0 : List (S136)) (s0_1 : Int) (s0_2 : Int) (s0_3 : Int) (s0_4 : Int) (s0_5 : Int) (a1 : Int) (r1 : Int) (r2 : Int) (r3 : Int) (r4 : Int) (r5 : ByteArray) (r6 : Int) (r7 : ByteArray) (r8 : List (S31)) (r9 : Int) (r10 : Int) (r11 : Int) (r12 : Int) (r13 : Int) (w0 w : World) (hI : IsS63 w0 w g s0_0 s0_1 s0_2 s0_3 s0_4 s0_5) (hB : Below w0.heap.size w0 w) (h : expr_Parser_Expr.f k s0_0 s0_1 s0_2 s0_3 s0_4 s0_5 a1 = some (r1, r2, r3, r4, r5, r6, r7, r8, r9, r10, r11, r12, r13)),
  Calls Tryz.prog 31 #[.pointer (some ⟨g, 0, none⟩), .int .i64 a1] w fun e w' => ∃ v7_ : Value, e = .returned (.agg #[.int .i64 r1, .int .i64 r2, .int .i64 r3, .int .i64 r4, .string r5, .int .i64 r6, .string r7, v7_]) ∧ Kd.V k31 31 w' w.heap.size (fun k_ => (w.heap.size ≤ k_)) v7_ r8 ∧ IsS63 w0 w' g s0_0 r9 r10 r11 r12 r13 ∧ Below w0.heap.size w0 w' ∧ KeepBut w w' g none := by
 intro g s0_0 s0_1 s0_2 s0_3 s0_4 s0_5 a1 r1 r2 r3 r4 r5 r6 r7 r8 r9 r10 r11 r12 r13 w0 w hI hB h
 cases k with
 | zero => exact absurd h (by simp [expr_Parser_Expr.f])
 | succ k =>
 simp only [expr_Parser_Expr.f] at h
 have hu31 := Tryz.underlying31
 have HI0 := Aside0.mk hI
 have HK := Aside0.mk (KeepBut.refl w g none)
 have HL := Aside0.mk hB.size
 clear hI
 have HW0 := Aside0.mk hB.size
 have HB := Aside0.mk hB
 clear hB
 have H : (if a1 > 64 then (none) else (if s0_4 = 0 then ((expr_Parser_Take.f k s0_0 s0_1 s0_2 s0_3 s0_4 s0_5 (⟨#[105, 102]⟩ : ByteArray)).bind fun bt698 => (expr_Parser_Expr.j0 k a1 (!bt698.1) s0_0 bt698.2.1 bt698.2.2.1 bt698.2.2.2.1 bt698.2.2.2.2.1 bt698.2.2.2.2.2)) else (expr_Parser_Expr.j0 k a1 true s0_0 s0_1 s0_2 s0_3 s0_4 s0_5))) = some (r1, r2, r3, r4, r5, r6, r7, r8, r9, r10, r11, r12, r13) := h
 clear h
 by_cases c3 : a1 > 64
 ·rw [if_pos c3] at H
  exact absurd H (by simp)
 ·rw [if_neg c3] at H
  have c3b0 : decide (64 < a1) = false := decide_eq_false c3
  clear c3
  have HC4 := Aside0.mk H
  clear H
  go_enter Tryz.func31, Tryz.ntmps31
  go_upto_region 3 with (first | ((with_reducible refine gate_dst (N := 4) rfl ?_); refine bev (#[.int .i64 0, .int .i64 0, .int .i64 0, .int .i64 0, .string (⟨#[]⟩ : ByteArray), .int .i64 0, .string (⟨#[]⟩ : ByteArray), .slice none 0 0]) 31 ?_; intro gb697 hg w5 hbox hb; replace HB := sb HB hb; have BK697 := Aside0.mk (hbox); have GW697 := gk hg HK; have GE697 := Aside0.mk (Nat.le_trans HW0.out GW697.out); replace HK := Aside0.mk (KeepBut.trans (kz HK.out) (KeepBut.of_below hb g none) (.inl rfl)); have NB0_697 := Aside0.mk ((nlt (a := g) hg (IsS63.lt (show IsS63 w0 _ g s0_0 s0_1 s0_2 s0_3 s0_4 s0_5 from hz HI0.out)))); have NB697_0 := Aside0.mk ((ngt (a := g) hg (IsS63.lt (show IsS63 w0 _ g s0_0 s0_1 s0_2 s0_3 s0_4 s0_5 from hz HI0.out)))); replace HI0 := Aside0.mk (IsS63.below (hz HI0.out) hb); clear hb hbox hg))
  (try simp only [Act.put, List.setIfInBounds_toArray, List.set_cons_zero, List.set_cons_succ])
  go_cut [20] (fun v20 wc => ∃ (kq : Nat) (x20_3 : Bool) (x1001_3 : Int) (x1002_3 : Int) (x1003_3 : Int) (x1004_3 : Int) (x1005_3 : Int), v20 = .bool x20_3 ∧ Aside0 (expr_Parser_Expr.j0 kq a1 x20_3 s0_0 x1001_3 x1002_3 x1003_3 x1004_3 x1005_3 = some (r1, r2, r3, r4, r5, r6, r7, r8, r9, r10, r11, r12, r13)) ∧ Aside0 (kq ≤ k) ∧ Aside0 (wc.heap[gb697]? = some (.cells #[.int .i64 0, .int .i64 0, .int .i64 0, .int .i64 0, .string (⟨#[]⟩ : ByteArray), .int .i64 0, .string (⟨#[]⟩ : ByteArray), (.slice none 0 0)] 31 (0, 0))) ∧ Aside0 (IsS63 w0 wc g s0_0 x1001_3 x1002_3 x1003_3 x1004_3 x1005_3) ∧ Aside0 (KeepBut w wc g none) ∧ Aside0 (Below w0.heap.size w0 wc))
  case first =>
   have H := HC4.out
   clear HC4
   by_cases c6 : s0_4 = 0
   ·rw [if_pos c6] at H
    have c6b0 : (s0_4 == 0) = true := beq_iff_eq.mpr c6
    have c6b1 : (s0_4 != 0) = false := bne_eq_false_iff_eq.mpr c6
    clear c6
    (first | rw [c6b0] | (simp only [i64_w, i32_w]; rw [c6b0]) | skip)
    replace H := Option.bind_eq_some_iff.mp H
    obtain ⟨⟨t698, t699, t700, t701, t702, t703⟩, A70, H⟩ := H
    replace H : (expr_Parser_Expr.j0 k a1 (!t698) s0_0 t699 t700 t701 t702 t703) = some (r1, r2, r3, r4, r5, r6, r7, r8, r9, r10, r11, r12, r13) := H
    have A7 := Aside0.mk A70
    clear A70
    have H' := Aside0.mk H
    clear H
    obtain ⟨ASz8_0, cSz8_0, HSz8_0, Z8_0, Z8_1, Z8_2, Z8_3, Z8_4, Z8_5, F8_1, F8_2, F8_3, F8_4, F8_5⟩ := open63 HI0.out
    go_wp2_with (first | (go_at_call 63; (with_reducible refine (expr_Parser_Take.calls k g s0_0 s0_1 s0_2 s0_3 s0_4 s0_5 (⟨#[105, 102]⟩ : ByteArray) t698 t699 t700 t701 t702 t703 w0 _ ?side1 ?side2 A7.out).mono ?_); (case side1 => exact hz HI0.out); (case side2 => exact bz HB.out); rintro e w9 ⟨rfl, hi, hb, hk⟩; replace BK697 := Aside0.mk (KeepBut.blk hk (bk BK697.out) NB697_0.out (by simp)); replace HK := Aside0.mk (KeepBut.trans (kz HK.out) hk (.inl rfl)); replace HB := Aside0.mk (hb); replace HI0 := Aside0.mk (hi); clear hb hk hi))
    go_meet
    case rel => exact ⟨_, (!t698), (t699), (t700), (t701), (t702), (t703), sz, H', ⟨oz⟩, ⟨bk BK697.out⟩, ⟨hz HI0.out⟩, ⟨kz HK.out⟩, ⟨bz HB.out⟩⟩
   ·rw [if_neg c6] at H
    have c6b0 : (s0_4 == 0) = false := beq_eq_false_iff_ne.mpr c6
    have c6b1 : (s0_4 != 0) = true := bne_iff_ne.mpr c6
    (first | rw [c6b0] | (simp only [i64_w, i32_w]; rw [c6b0]) | skip)
    have H' := Aside0.mk H
    clear H
    obtain ⟨ASz10_0, cSz10_0, HSz10_0, Z10_0, Z10_1, Z10_2, Z10_3, Z10_4, Z10_5, F10_1, F10_2, F10_3, F10_4, F10_5⟩ := open63 HI0.out
    go_wp2
    go_meet
    case rel => exact ⟨_, (true), (s0_1), (s0_2), (s0_3), (s0_4), (s0_5), sz, H', ⟨oz⟩, ⟨bk BK697.out⟩, ⟨hz HI0.out⟩, ⟨kz HK.out⟩, ⟨bz HB.out⟩⟩
  case rest =>
   clear HC4
   try clear p2; try clear c3; try clear c3b0; try clear c6; try clear c6b0; try clear c6b1; try clear Z10_0; try clear Z10_1; try clear Z10_2; try clear Z10_3; try clear Z10_4; try clear Z10_5; try clear Z8_0; try clear Z8_1; try clear Z8_2; try clear Z8_3; try clear Z8_4; try clear Z8_5; try clear F10_1; try clear F10_2; try clear F10_3; try clear F10_4; try clear F10_5; try clear F8_1; try clear F8_2; try clear F8_3; try clear F8_4; try clear F8_5
   obtain ⟨kq, x20_3, x1001_3, x1002_3, x1003_3, x1004_3, x1005_3, rfl, HA, HJ3, BK697, HI0, HK, HB⟩ := hcut
   cases kq with
   | zero => exact absurd HA.out (by simp [expr_Parser_Expr.j0])
   | succ kj3 =>
    have H := HA.out
    clear HA
    simp only [expr_Parser_Expr.j0] at H
    by_cases c11 : x20_3 = true
    ·subst c11
     have H1 : ((expr_Parser_chain.f kj3 s0_0 x1001_3 x1002_3 x1003_3 x1004_3 x1005_3 a1 0).bind fun bt704 => (some (bt704.1, bt704.2.1, bt704.2.2.1, bt704.2.2.2.1, bt704.2.2.2.2.1, bt704.2.2.2.2.2.1, bt704.2.2.2.2.2.2.1, bt704.2.2.2.2.2.2.2.1, bt704.2.2.2.2.2.2.2.2.1, bt704.2.2.2.2.2.2.2.2.2.1, bt704.2.2.2.2.2.2.2.2.2.2.1, bt704.2.2.2.2.2.2.2.2.2.2.2.1, bt704.2.2.2.2.2.2.2.2.2.2.2.2))) = some (r1, r2, r3, r4, r5, r6, r7, r8, r9, r10, r11, r12, r13) := by rw [if_pos rfl] at H; exact H
     clear H
     have H := H1
     clear H1
     replace H := Option.bind_eq_some_iff.mp H
     obtain ⟨⟨t704, t705, t706, t707, t708, t709, t710, t711, t714, t715, t716, t717, t718⟩, A120, H⟩ := H
     replace H : (some (t704, t705, t706, t707, t708, t709, t710, t711, t714, t715, t716, t717, t718)) = some (r1, r2, r3, r4, r5, r6, r7, r8, r9, r10, r11, r12, r13) := H
     have A12 := Aside0.mk A120
     clear A120
     simp only [Option.some.injEq, Prod.mk.injEq] at H
     obtain ⟨rfl, rfl, rfl, rfl, rfl, rfl, rfl, rfl, rfl, rfl, rfl, rfl, rfl⟩ := H
     go_wp2_with (first | ((with_reducible refine gate_callee (f := 64) rfl ?_); refine gl_ (some 23) Tryz.func64 (by kernel_rfl) #[.pointer (some ⟨g, 0, none⟩), .int .i64 a1, .int .i64 0] rfl ?_; (with_reducible refine (ih_expr_Parser_chain kj3 (by have := HJ3.out; omega) g s0_0 x1001_3 x1002_3 x1003_3 x1004_3 x1005_3 a1 0 t704 t705 t706 t707 t708 t709 t710 t711 t714 t715 t716 t717 t718 w0 _ ?side1 ?side2 A12.out).mono ?_); (case side1 => exact hz HI0.out); (case side2 => exact bz HB.out); rintro e w13 ⟨v712, rfl, ho0, hi, hb, hk⟩; refine ⟨_, rfl, ?_⟩; have HO713 := Aside0.mk (Kd.V_lower (Kd.V_mono (ok' := fun k_ => (w.heap.size ≤ k_) ∧ k_ ≠ gb697 ∧ k_ ≠ g) ho0 (fun k_ hk_ => ⟨(Nat.le_trans (keep_size (w := w) (g := g) (row := none) (kz HK.out)) hk_), (Kd.freshB (bk BK697.out) k_ hk_), (IsS63.fresh (hz HI0.out) k_ hk_)⟩)) (keep_size (w := w) (g := g) (row := none) (kz HK.out))); replace BK697 := Aside0.mk (KeepBut.blk hk (bk BK697.out) NB697_0.out (by simp)); replace HK := Aside0.mk (KeepBut.trans (kz HK.out) hk (.inl rfl)); replace HB := Aside0.mk (hb); replace HI0 := Aside0.mk (hi); clear hb hk hi ho0; have hnb14 := NB697_0.out; have hnc14 := NB0_697.out; obtain ⟨Z15_0, Z15_1, Z15_2, Z15_3, Z15_4, Z15_5, Z15_6, Z15_7, F15_0, F15_1, F15_2, F15_3, F15_4, F15_5, F15_6, F15_7⟩ := cz8 BK697.out; obtain ⟨Ao16, co16, eo16⟩ := Kd.V_slice HO713.out; subst eo16))
     refine bodyPost_ret (results_cell_row rfl _ _ gb697 31 #[.int .i64 t704, .int .i64 t705, .int .i64 t706, .int .i64 t707, .string t708, .int .i64 t709, .string t710, .slice Ao16 t711.length co16] (0, 0) _ rfl (bp BK697.out) Tryz.underlying31 rfl (by kernel_rfl)) rfl ?_
     exact ⟨_, az, by (with_reducible repeat (first | apply Kd.V_alloc | apply Kd.V_drewN | apply Kd.V_drew)); exact Kd.V_mono (Kd.V_far (p := ⟨gb697, 7, none⟩) (Kd.V_far (p := ⟨gb697, 6, none⟩) (Kd.V_far (p := ⟨gb697, 5, none⟩) (Kd.V_far (p := ⟨gb697, 4, none⟩) (Kd.V_far (p := ⟨gb697, 3, none⟩) (Kd.V_far (p := ⟨gb697, 2, none⟩) (Kd.V_far (p := ⟨gb697, 1, none⟩) (Kd.V_far (p := ⟨gb697, 0, none⟩) (Kd.V_mono HO713.out (fun k_ hk => (⟨hk, hk.2.1⟩ : _ ∧ k_ ≠ gb697))) (fun _ hk => hk.2) (.int .i64 t704)) (fun _ hk => hk.2) (.int .i64 t705)) (fun _ hk => hk.2) (.int .i64 t706)) (fun _ hk => hk.2) (.int .i64 t707)) (fun _ hk => hk.2) (.string t708)) (fun _ hk => hk.2) (.int .i64 t709)) (fun _ hk => hk.2) (.string t710)) (fun _ hk => hk.2) (.slice Ao16 t711.length co16)) (fun _ hk => hk.1.1), hz HI0.out, bz HB.out, kz HK.out⟩
    ·replace c11 := Bool.eq_false_iff.mpr c11
     subst c11
     have H1 : ((expr_Parser_Expr.f kj3 s0_0 x1001_3 x1002_3 x1003_3 x1004_3 x1005_3 a1).bind fun bt719 => ((expr_Parser_Need.f kj3 s0_0 bt719.2.2.2.2.2.2.2.2.1 bt719.2.2.2.2.2.2.2.2.2.1 bt719.2.2.2.2.2.2.2.2.2.2.1 bt719.2.2.2.2.2.2.2.2.2.2.2.1 bt719.2.2.2.2.2.2.2.2.2.2.2.2 (⟨#[116, 104, 101, 110]⟩ : ByteArray)).bind fun bt735 => ((expr_Parser_Expr.f kj3 s0_0 bt735.1 bt735.2.1 bt735.2.2.1 bt735.2.2.2.1 bt735.2.2.2.2 a1).bind fun bt740 => ((expr_Parser_Need.f kj3 s0_0 bt740.2.2.2.2.2.2.2.2.1 bt740.2.2.2.2.2.2.2.2.2.1 bt740.2.2.2.2.2.2.2.2.2.2.1 bt740.2.2.2.2.2.2.2.2.2.2.2.1 bt740.2.2.2.2.2.2.2.2.2.2.2.2 (⟨#[101, 108, 115, 101]⟩ : ByteArray)).bind fun bt756 => ((expr_Parser_Expr.f kj3 s0_0 bt756.1 bt756.2.1 bt756.2.2.1 bt756.2.2.2.1 bt756.2.2.2.2 a1).bind fun bt761 => ((expr_Parser_make.f s0_0 bt761.2.2.2.2.2.2.2.2.1 bt761.2.2.2.2.2.2.2.2.2.1 bt761.2.2.2.2.2.2.2.2.2.2.1 bt761.2.2.2.2.2.2.2.2.2.2.2.1 bt761.2.2.2.2.2.2.2.2.2.2.2.2 17 (([(⟨bt719.1, (⟨bt719.2.1, (⟨bt719.2.2.1, bt719.2.2.2.1⟩ : S23), bt719.2.2.2.2.1, bt719.2.2.2.2.2.1⟩ : S25), bt719.2.2.2.2.2.2.1, bt719.2.2.2.2.2.2.2.1⟩ : S31), (⟨bt740.1, (⟨bt740.2.1, (⟨bt740.2.2.1, bt740.2.2.2.1⟩ : S23), bt740.2.2.2.2.1, bt740.2.2.2.2.2.1⟩ : S25), bt740.2.2.2.2.2.2.1, bt740.2.2.2.2.2.2.2.1⟩ : S31), (⟨bt761.1, (⟨bt761.2.1, (⟨bt761.2.2.1, bt761.2.2.2.1⟩ : S23), bt761.2.2.2.2.1, bt761.2.2.2.2.2.1⟩ : S25), bt761.2.2.2.2.2.2.1, bt761.2.2.2.2.2.2.2.1⟩ : S31)] : List (S31)))).bind fun bt779 => (some (bt779.1, bt779.2.1, bt779.2.2.1, bt779.2.2.2.1, bt779.2.2.2.2.1, bt779.2.2.2.2.2.1, bt779.2.2.2.2.2.2.1, bt779.2.2.2.2.2.2.2.1, bt779.2.2.2.2.2.2.2.2.1, bt779.2.2.2.2.2.2.2.2.2.1, bt779.2.2.2.2.2.2.2.2.2.2.1, bt779.2.2.2.2.2.2.2.2.2.2.2.1, bt779.2.2.2.2.2.2.2.2.2.2.2.2)))))))) = some (r1, r2, r3, r4, r5, r6, r7, r8, r9, r10, r11, r12, r13) := by rw [if_neg (show ¬ (false = true) by decide)] at H; exact H
     clear H
     have H := H1
     clear H1
     replace H := Option.bind_eq_some_iff.mp H
     obtain ⟨⟨t719, t720, t721, t722, t723, t724, t725, t726, t729, t730, t731, t732, t733⟩, A170, H⟩ := H
     replace H : ((expr_Parser_Need.f kj3 s0_0 t729 t730 t731 t732 t733 (⟨#[116, 104, 101, 110]⟩ : ByteArray)).bind fun bt735 => ((expr_Parser_Expr.f kj3 s0_0 bt735.1 bt735.2.1 bt735.2.2.1 bt735.2.2.2.1 bt735.2.2.2.2 a1).bind fun bt740 => ((expr_Parser_Need.f kj3 s0_0 bt740.2.2.2.2.2.2.2.2.1 bt740.2.2.2.2.2.2.2.2.2.1 bt740.2.2.2.2.2.2.2.2.2.2.1 bt740.2.2.2.2.2.2.2.2.2.2.2.1 bt740.2.2.2.2.2.2.2.2.2.2.2.2 (⟨#[101, 108, 115, 101]⟩ : ByteArray)).bind fun bt756 => ((expr_Parser_Expr.f kj3 s0_0 bt756.1 bt756.2.1 bt756.2.2.1 bt756.2.2.2.1 bt756.2.2.2.2 a1).bind fun bt761 => ((expr_Parser_make.f s0_0 bt761.2.2.2.2.2.2.2.2.1 bt761.2.2.2.2.2.2.2.2.2.1 bt761.2.2.2.2.2.2.2.2.2.2.1 bt761.2.2.2.2.2.2.2.2.2.2.2.1 bt761.2.2.2.2.2.2.2.2.2.2.2.2 17 (([(⟨t719, (⟨t720, (⟨t721, t722⟩ : S23), t723, t724⟩ : S25), t725, t726⟩ : S31), (⟨bt740.1, (⟨bt740.2.1, (⟨bt740.2.2.1, bt740.2.2.2.1⟩ : S23), bt740.2.2.2.2.1, bt740.2.2.2.2.2.1⟩ : S25), bt740.2.2.2.2.2.2.1, bt740.2.2.2.2.2.2.2.1⟩ : S31), (⟨bt761.1, (⟨bt761.2.1, (⟨bt761.2.2.1, bt761.2.2.2.1⟩ : S23), bt761.2.2.2.2.1, bt761.2.2.2.2.2.1⟩ : S25), bt761.2.2.2.2.2.2.1, bt761.2.2.2.2.2.2.2.1⟩ : S31)] : List (S31)))).bind fun bt779 => (some (bt779.1, bt779.2.1, bt779.2.2.1, bt779.2.2.2.1, bt779.2.2.2.2.1, bt779.2.2.2.2.2.1, bt779.2.2.2.2.2.2.1, bt779.2.2.2.2.2.2.2.1, bt779.2.2.2.2.2.2.2.2.1, bt779.2.2.2.2.2.2.2.2.2.1, bt779.2.2.2.2.2.2.2.2.2.2.1, bt779.2.2.2.2.2.2.2.2.2.2.2.1, bt779.2.2.2.2.2.2.2.2.2.2.2.2))))))) = some (r1, r2, r3, r4, r5, r6, r7, r8, r9, r10, r11, r12, r13) := H
     have A17 := Aside0.mk A170
     clear A170
     replace H := Option.bind_eq_some_iff.mp H
     obtain ⟨⟨t735, t736, t737, t738, t739⟩, A180, H⟩ := H
     replace H : ((expr_Parser_Expr.f kj3 s0_0 t735 t736 t737 t738 t739 a1).bind fun bt740 => ((expr_Parser_Need.f kj3 s0_0 bt740.2.2.2.2.2.2.2.2.1 bt740.2.2.2.2.2.2.2.2.2.1 bt740.2.2.2.2.2.2.2.2.2.2.1 bt740.2.2.2.2.2.2.2.2.2.2.2.1 bt740.2.2.2.2.2.2.2.2.2.2.2.2 (⟨#[101, 108, 115, 101]⟩ : ByteArray)).bind fun bt756 => ((expr_Parser_Expr.f kj3 s0_0 bt756.1 bt756.2.1 bt756.2.2.1 bt756.2.2.2.1 bt756.2.2.2.2 a1).bind fun bt761 => ((expr_Parser_make.f s0_0 bt761.2.2.2.2.2.2.2.2.1 bt761.2.2.2.2.2.2.2.2.2.1 bt761.2.2.2.2.2.2.2.2.2.2.1 bt761.2.2.2.2.2.2.2.2.2.2.2.1 bt761.2.2.2.2.2.2.2.2.2.2.2.2 17 (([(⟨t719, (⟨t720, (⟨t721, t722⟩ : S23), t723, t724⟩ : S25), t725, t726⟩ : S31), (⟨bt740.1, (⟨bt740.2.1, (⟨bt740.2.2.1, bt740.2.2.2.1⟩ : S23), bt740.2.2.2.2.1, bt740.2.2.2.2.2.1⟩ : S25), bt740.2.2.2.2.2.2.1, bt740.2.2.2.2.2.2.2.1⟩ : S31), (⟨bt761.1, (⟨bt761.2.1, (⟨bt761.2.2.1, bt761.2.2.2.1⟩ : S23), bt761.2.2.2.2.1, bt761.2.2.2.2.2.1⟩ : S25), bt761.2.2.2.2.2.2.1, bt761.2.2.2.2.2.2.2.1⟩ : S31)] : List (S31)))).bind fun bt779 => (some (bt779.1, bt779.2.1, bt779.2.2.1, bt779.2.2.2.1, bt779.2.2.2.2.1, bt779.2.2.2.2.2.1, bt779.2.2.2.2.2.2.1, bt779.2.2.2.2.2.2.2.1, bt779.2.2.2.2.2.2.2.2.1, bt779.2.2.2.2.2.2.2.2.2.1, bt779.2.2.2.2.2.2.2.2.2.2.1, bt779.2.2.2.2.2.2.2.2.2.2.2.1, bt779.2.2.2.2.2.2.2.2.2.2.2.2)))))) = some (r1, r2, r3, r4, r5, r6, r7, r8, r9, r10, r11, r12, r13) := H
     have A18 := Aside0.mk A180
     clear A180
     replace H := Option.bind_eq_some_iff.mp H
     obtain ⟨⟨t740, t741, t742, t743, t744, t745, t746, t747, t750, t751, t752, t753, t754⟩, A190, H⟩ := H
     replace H : ((expr_Parser_Need.f kj3 s0_0 t750 t751 t752 t753 t754 (⟨#[101, 108, 115, 101]⟩ : ByteArray)).bind fun bt756 => ((expr_Parser_Expr.f kj3 s0_0 bt756.1 bt756.2.1 bt756.2.2.1 bt756.2.2.2.1 bt756.2.2.2.2 a1).bind fun bt761 => ((expr_Parser_make.f s0_0 bt761.2.2.2.2.2.2.2.2.1 bt761.2.2.2.2.2.2.2.2.2.1 bt761.2.2.2.2.2.2.2.2.2.2.1 bt761.2.2.2.2.2.2.2.2.2.2.2.1 bt761.2.2.2.2.2.2.2.2.2.2.2.2 17 (([(⟨t719, (⟨t720, (⟨t721, t722⟩ : S23), t723, t724⟩ : S25), t725, t726⟩ : S31), (⟨t740, (⟨t741, (⟨t742, t743⟩ : S23), t744, t745⟩ : S25), t746, t747⟩ : S31), (⟨bt761.1, (⟨bt761.2.1, (⟨bt761.2.2.1, bt761.2.2.2.1⟩ : S23), bt761.2.2.2.2.1, bt761.2.2.2.2.2.1⟩ : S25), bt761.2.2.2.2.2.2.1, bt761.2.2.2.2.2.2.2.1⟩ : S31)] : List (S31)))).bind fun bt779 => (some (bt779.1, bt779.2.1, bt779.2.2.1, bt779.2.2.2.1, bt779.2.2.2.2.1, bt779.2.2.2.2.2.1, bt779.2.2.2.2.2.2.1, bt779.2.2.2.2.2.2.2.1, bt779.2.2.2.2.2.2.2.2.1, bt779.2.2.2.2.2.2.2.2.2.1, bt779.2.2.2.2.2.2.2.2.2.2.1, bt779.2.2.2.2.2.2.2.2.2.2.2.1, bt779.2.2.2.2.2.2.2.2.2.2.2.2))))) = some (r1, r2, r3, r4, r5, r6, r7, r8, r9, r10, r11, r12, r13) := H
     have A19 := Aside0.mk A190
     clear A190
     replace H := Option.bind_eq_some_iff.mp H
     obtain ⟨⟨t756, t757, t758, t759, t760⟩, A200, H⟩ := H
     replace H : ((expr_Parser_Expr.f kj3 s0_0 t756 t757 t758 t759 t760 a1).bind fun bt761 => ((expr_Parser_make.f s0_0 bt761.2.2.2.2.2.2.2.2.1 bt761.2.2.2.2.2.2.2.2.2.1 bt761.2.2.2.2.2.2.2.2.2.2.1 bt761.2.2.2.2.2.2.2.2.2.2.2.1 bt761.2.2.2.2.2.2.2.2.2.2.2.2 17 (([(⟨t719, (⟨t720, (⟨t721, t722⟩ : S23), t723, t724⟩ : S25), t725, t726⟩ : S31), (⟨t740, (⟨t741, (⟨t742, t743⟩ : S23), t744, t745⟩ : S25), t746, t747⟩ : S31), (⟨bt761.1, (⟨bt761.2.1, (⟨bt761.2.2.1, bt761.2.2.2.1⟩ : S23), bt761.2.2.2.2.1, bt761.2.2.2.2.2.1⟩ : S25), bt761.2.2.2.2.2.2.1, bt761.2.2.2.2.2.2.2.1⟩ : S31)] : List (S31)))).bind fun bt779 => (some (bt779.1, bt779.2.1, bt779.2.2.1, bt779.2.2.2.1, bt779.2.2.2.2.1, bt779.2.2.2.2.2.1, bt779.2.2.2.2.2.2.1, bt779.2.2.2.2.2.2.2.1, bt779.2.2.2.2.2.2.2.2.1, bt779.2.2.2.2.2.2.2.2.2.1, bt779.2.2.2.2.2.2.2.2.2.2.1, bt779.2.2.2.2.2.2.2.2.2.2.2.1, bt779.2.2.2.2.2.2.2.2.2.2.2.2)))) = some (r1, r2, r3, r4, r5, r6, r7, r8, r9, r10, r11, r12, r13) := H
     have A20 := Aside0.mk A200
     clear A200
     replace H := Option.bind_eq_some_iff.mp H
     obtain ⟨⟨t761, t762, t763, t764, t765, t766, t767, t768, t771, t772, t773, t774, t775⟩, A210, H⟩ := H
     replace H : ((expr_Parser_make.f s0_0 t771 t772 t773 t774 t775 17 (([(⟨t719, (⟨t720, (⟨t721, t722⟩ : S23), t723, t724⟩ : S25), t725, t726⟩ : S31), (⟨t740, (⟨t741, (⟨t742, t743⟩ : S23), t744, t745⟩ : S25), t746, t747⟩ : S31), (⟨t761, (⟨t762, (⟨t763, t764⟩ : S23), t765, t766⟩ : S25), t767, t768⟩ : S31)] : List (S31)))).bind fun bt779 => (some (bt779.1, bt779.2.1, bt779.2.2.1, bt779.2.2.2.1, bt779.2.2.2.2.1, bt779.2.2.2.2.2.1, bt779.2.2.2.2.2.2.1, bt779.2.2.2.2.2.2.2.1, bt779.2.2.2.2.2.2.2.2.1, bt779.2.2.2.2.2.2.2.2.2.1, bt779.2.2.2.2.2.2.2.2.2.2.1, bt779.2.2.2.2.2.2.2.2.2.2.2.1, bt779.2.2.2.2.2.2.2.2.2.2.2.2))) = some (r1, r2, r3, r4, r5, r6, r7, r8, r9, r10, r11, r12, r13) := H
     have A21 := Aside0.mk A210
     clear A210
     obtain ⟨y776, hy776⟩ : ∃ y_ : List (S31), y_ = (([(⟨t719, (⟨t720, (⟨t721, t722⟩ : S23), t723, t724⟩ : S25), t725, t726⟩ : S31), (⟨t740, (⟨t741, (⟨t742, t743⟩ : S23), t744, t745⟩ : S25), t746, t747⟩ : S31), (⟨t761, (⟨t762, (⟨t763, t764⟩ : S23), t765, t766⟩ : S25), t767, t768⟩ : S31)] : List (S31))) := ⟨_, rfl⟩
     replace H : ((expr_Parser_make.f s0_0 t771 t772 t773 t774 t775 17 y776).bind fun bt779 => (some (bt779.1, bt779.2.1, bt779.2.2.1, bt779.2.2.2.1, bt779.2.2.2.2.1, bt779.2.2.2.2.2.1, bt779.2.2.2.2.2.2.1, bt779.2.2.2.2.2.2.2.1, bt779.2.2.2.2.2.2.2.2.1, bt779.2.2.2.2.2.2.2.2.2.1, bt779.2.2.2.2.2.2.2.2.2.2.1, bt779.2.2.2.2.2.2.2.2.2.2.2.1, bt779.2.2.2.2.2.2.2.2.2.2.2.2))) = some (r1, r2, r3, r4, r5, r6, r7, r8, r9, r10, r11, r12, r13) := by first | (rw [hy776]; with_reducible exact H) | (have H2_ := (Option.bind_some _ _).symm.trans H; rw [hy776]; with_reducible exact H2_) | (have H2_ := (Option.bind_some _ _).symm.trans H; with_reducible exact H2_) | with_reducible exact H | (rw [hy776]; exact H) | exact H
     have Ny776 := Aside0.mk hy776
     clear hy776
     replace H := Option.bind_eq_some_iff.mp H
     obtain ⟨⟨t779, t780, t781, t782, t783, t784, t785, t786, t789, t790, t791, t792, t793⟩, A220, H⟩ := H
     replace H : (some (t779, t780, t781, t782, t783, t784, t785, t786, t789, t790, t791, t792, t793)) = some (r1, r2, r3, r4, r5, r6, r7, r8, r9, r10, r11, r12, r13) := H
     have A22 := Aside0.mk A220
     clear A220
     simp only [Option.some.injEq, Prod.mk.injEq] at H
     obtain ⟨rfl, rfl, rfl, rfl, rfl, rfl, rfl, rfl, rfl, rfl, rfl, rfl, rfl⟩ := H
     try go_wp2_with (first | ((with_reducible refine gate_callee (f := 31) rfl ?_); refine gl_ (some 26) Tryz.func31 (by kernel_rfl) #[.pointer (some ⟨g, 0, none⟩), .int .i64 a1] rfl ?_; (with_reducible refine (ih_expr_Parser_Expr kj3 (by have := HJ3.out; omega) g s0_0 x1001_3 x1002_3 x1003_3 x1004_3 x1005_3 a1 t719 t720 t721 t722 t723 t724 t725 t726 t729 t730 t731 t732 t733 w0 _ ?side1 ?side2 A17.out).mono ?_); (case side1 => exact hz HI0.out); (case side2 => exact bz HB.out); rintro e w23 ⟨v727, rfl, ho0, hi, hb, hk⟩; refine ⟨_, rfl, ?_⟩; have HO728 := Aside0.mk (Kd.V_lower (Kd.V_mono (ok' := fun k_ => (w.heap.size ≤ k_) ∧ k_ ≠ gb697 ∧ k_ ≠ g) ho0 (fun k_ hk_ => ⟨(Nat.le_trans (keep_size (w := w) (g := g) (row := none) (kz HK.out)) hk_), (Kd.freshB (bk BK697.out) k_ hk_), (IsS63.fresh (hz HI0.out) k_ hk_)⟩)) (keep_size (w := w) (g := g) (row := none) (kz HK.out))); replace BK697 := Aside0.mk (KeepBut.blk hk (bk BK697.out) NB697_0.out (by simp)); replace HK := Aside0.mk (KeepBut.trans (kz HK.out) hk (.inl rfl)); replace HB := Aside0.mk (hb); replace HI0 := Aside0.mk (hi); clear hb hk hi ho0) | ((with_reducible refine gate_dst (N := 5) rfl ?_); refine bev (#[.int .i64 0, .int .i64 0, .int .i64 0, .int .i64 0, .string (⟨#[]⟩ : ByteArray), .int .i64 0, .string (⟨#[]⟩ : ByteArray), .slice none 0 0]) 31 ?_; intro gb734 hg w24 hbox hb; replace HO728 := Aside0.mk (Kd.V_below (Kd.V_elderB (vv HO728.out) gb734 (Nat.le_of_eq hg.symm)) hb); replace HB := sb HB hb; have BK734 := Aside0.mk (hbox); have GW734 := gk hg HK; have GE734 := Aside0.mk (Nat.le_trans HW0.out GW734.out); replace HK := Aside0.mk (KeepBut.trans (kz HK.out) (KeepBut.of_below hb g none) (.inl rfl)); have NB697_734 := na hg BK697; have NB734_697 := nb hg BK697; replace BK697 := kb BK697 hb; have NB0_734 := Aside0.mk ((nlt (a := g) hg (IsS63.lt (show IsS63 w0 _ g s0_0 t729 t730 t731 t732 t733 from hz HI0.out)))); have NB734_0 := Aside0.mk ((ngt (a := g) hg (IsS63.lt (show IsS63 w0 _ g s0_0 t729 t730 t731 t732 t733 from hz HI0.out)))); replace HI0 := Aside0.mk (IsS63.below (hz HI0.out) hb); clear hb hbox hg; have hnb25 := NB734_697.out; have hnc25 := NB697_734.out; have hnb26 := NB734_0.out; have hnc26 := NB0_734.out; obtain ⟨Z27_0, Z27_1, Z27_2, Z27_3, Z27_4, Z27_5, Z27_6, Z27_7, F27_0, F27_1, F27_2, F27_3, F27_4, F27_5, F27_6, F27_7⟩ := cz8 BK734.out; obtain ⟨Ao28, co28, eo28⟩ := Kd.V_slice HO728.out; subst eo28) | ((with_reducible refine gate_callee (f := 65) rfl ?_); refine gl_ (some 28) Tryz.func65 (by kernel_rfl) #[.pointer (some ⟨g, 0, none⟩), .string (⟨#[116, 104, 101, 110]⟩ : ByteArray)] rfl ?_; (with_reducible refine (expr_Parser_Need.calls kj3 g s0_0 t729 t730 t731 t732 t733 (⟨#[116, 104, 101, 110]⟩ : ByteArray) t735 t736 t737 t738 t739 w0 _ ?side1 ?side2 A18.out).mono ?_); (case side1 => exact hz HI0.out); (case side2 => exact bz HB.out); rintro e w29 ⟨rfl, hi, hb, hk⟩; refine ⟨_, rfl, ?_⟩; replace BK697 := Aside0.mk (KeepBut.blk hk (g' := gb697) (o := .cells #[.int .i64 0, .int .i64 0, .int .i64 0, .int .i64 0, .string (⟨#[]⟩ : ByteArray), .int .i64 0, .string (⟨#[]⟩ : ByteArray), .slice none 0 0] 31 (0, 0)) (bp BK697.out) NB697_0.out (by simp)); replace HO728 := Aside0.mk (Kd.V_mono (Kd.V_keep (Kd.V_mono (ok := fun k_ => ((((w.heap.size ≤ k_)) ∧ (k_ ≠ gb697 ∧ k_ ≠ g)) ∧ k_ ≠ gb734)) (by (with_reducible repeat (first | apply Kd.V_alloc | apply Kd.V_drewN | apply Kd.V_drew)); exact (Kd.V_mono (Kd.V_far (p := ⟨gb734, 7, none⟩) (Kd.V_far (p := ⟨gb734, 6, none⟩) (Kd.V_far (p := ⟨gb734, 5, none⟩) (Kd.V_far (p := ⟨gb734, 4, none⟩) (Kd.V_far (p := ⟨gb734, 3, none⟩) (Kd.V_far (p := ⟨gb734, 2, none⟩) (Kd.V_far (p := ⟨gb734, 1, none⟩) (Kd.V_far (p := ⟨gb734, 0, none⟩) (Kd.V_mono HO728.out (fun k_ hk => (⟨hk, hk.2⟩ : _ ∧ k_ ≠ gb734))) (fun _ hk => hk.2) (.int .i64 t719)) (fun _ hk => hk.2) (.int .i64 t720)) (fun _ hk => hk.2) (.int .i64 t721)) (fun _ hk => hk.2) (.int .i64 t722)) (fun _ hk => hk.2) (.string t723)) (fun _ hk => hk.2) (.int .i64 t724)) (fun _ hk => hk.2) (.string t725)) (fun _ hk => hk.2) (.slice Ao28 t726.length co28)) (fun _ h_ => h_.1))) (fun k_ hk_ => (⟨hk_, hk_.1.2.2⟩ : _ ∧ k_ ≠ g))) hk (fun _ h => h.2)) (fun _ h => h.1)); replace BK734 := Aside0.mk (KeepBut.blk hk (g' := gb734) (o := .cells #[.int .i64 t719, .int .i64 t720, .int .i64 t721, .int .i64 t722, .string t723, .int .i64 t724, .string t725, .slice Ao28 t726.length co28] 31 (0, 0)) (bp BK734.out) NB734_0.out (by simp)); replace HK := Aside0.mk (KeepBut.trans (kz HK.out) hk (.inl rfl)); replace HB := Aside0.mk (hb); replace HI0 := Aside0.mk (hi); clear hb hk hi) | ((with_reducible refine gate_callee (f := 31) rfl ?_); refine gl_ (some 31) Tryz.func31 (by kernel_rfl) #[.pointer (some ⟨g, 0, none⟩), .int .i64 a1] rfl ?_; (with_reducible refine (ih_expr_Parser_Expr kj3 (by have := HJ3.out; omega) g s0_0 t735 t736 t737 t738 t739 a1 t740 t741 t742 t743 t744 t745 t746 t747 t750 t751 t752 t753 t754 w0 _ ?side1 ?side2 A19.out).mono ?_); (case side1 => exact hz HI0.out); (case side2 => exact bz HB.out); rintro e w30 ⟨v748, rfl, ho0, hi, hb, hk⟩; refine ⟨_, rfl, ?_⟩; replace HO728 := Aside0.mk (Kd.V_mono (Kd.V_keep (Kd.V_mono (ok := fun k_ => ((((w.heap.size ≤ k_)) ∧ (k_ ≠ gb697 ∧ k_ ≠ g)) ∧ k_ ≠ gb734)) (vv HO728.out) (fun k_ hk_ => (⟨hk_, hk_.1.2.2⟩ : _ ∧ k_ ≠ g))) hk (fun _ h => h.2)) (fun _ h => h.1)); have HO749 := Aside0.mk (Kd.V_lower (Kd.V_mono (ok' := fun k_ => (w.heap.size ≤ k_) ∧ k_ ≠ gb697 ∧ k_ ≠ gb734 ∧ k_ ≠ g) ho0 (fun k_ hk_ => ⟨(Nat.le_trans (keep_size (w := w) (g := g) (row := none) (kz HK.out)) hk_), (Kd.freshB (bk BK697.out) k_ hk_), (Kd.freshB (bk BK734.out) k_ hk_), (IsS63.fresh (hz HI0.out) k_ hk_)⟩)) (keep_size (w := w) (g := g) (row := none) (kz HK.out))); replace BK697 := Aside0.mk (KeepBut.blk hk (bk BK697.out) NB697_0.out (by simp)); replace BK734 := Aside0.mk (KeepBut.blk hk (bk BK734.out) NB734_0.out (by simp)); replace HK := Aside0.mk (KeepBut.trans (kz HK.out) hk (.inl rfl)); replace HB := Aside0.mk (hb); replace HI0 := Aside0.mk (hi); clear hb hk hi ho0) | ((with_reducible refine gate_dst (N := 6) rfl ?_); refine bev (#[.int .i64 0, .int .i64 0, .int .i64 0, .int .i64 0, .string (⟨#[]⟩ : ByteArray), .int .i64 0, .string (⟨#[]⟩ : ByteArray), .slice none 0 0]) 31 ?_; intro gb755 hg w31 hbox hb; replace HO728 := Aside0.mk (Kd.V_below (Kd.V_elderB (vv HO728.out) gb755 (Nat.le_of_eq hg.symm)) hb); replace HO749 := Aside0.mk (Kd.V_below (Kd.V_elderB (vv HO749.out) gb755 (Nat.le_of_eq hg.symm)) hb); replace HB := sb HB hb; have BK755 := Aside0.mk (hbox); have GW755 := gk hg HK; have GE755 := Aside0.mk (Nat.le_trans HW0.out GW755.out); replace HK := Aside0.mk (KeepBut.trans (kz HK.out) (KeepBut.of_below hb g none) (.inl rfl)); have NB697_755 := na hg BK697; have NB755_697 := nb hg BK697; replace BK697 := kb BK697 hb; have NB734_755 := na hg BK734; have NB755_734 := nb hg BK734; replace BK734 := kb BK734 hb; have NB0_755 := Aside0.mk ((nlt (a := g) hg (IsS63.lt (show IsS63 w0 _ g s0_0 t750 t751 t752 t753 t754 from hz HI0.out)))); have NB755_0 := Aside0.mk ((ngt (a := g) hg (IsS63.lt (show IsS63 w0 _ g s0_0 t750 t751 t752 t753 t754 from hz HI0.out)))); replace HI0 := Aside0.mk (IsS63.below (hz HI0.out) hb); clear hb hbox hg; have hnb32 := NB755_697.out; have hnc32 := NB697_755.out; have hnb33 := NB755_734.out; have hnc33 := NB734_755.out; have hnb34 := NB755_0.out; have hnc34 := NB0_755.out; obtain ⟨Z35_0, Z35_1, Z35_2, Z35_3, Z35_4, Z35_5, Z35_6, Z35_7, F35_0, F35_1, F35_2, F35_3, F35_4, F35_5, F35_6, F35_7⟩ := cz8 BK755.out; obtain ⟨Ao36, co36, eo36⟩ := Kd.V_slice HO749.out; subst eo36) | ((with_reducible refine gate_callee (f := 65) rfl ?_); refine gl_ (some 33) Tryz.func65 (by kernel_rfl) #[.pointer (some ⟨g, 0, none⟩), .string (⟨#[101, 108, 115, 101]⟩ : ByteArray)] rfl ?_; (with_reducible refine (expr_Parser_Need.calls kj3 g s0_0 t750 t751 t752 t753 t754 (⟨#[101, 108, 115, 101]⟩ : ByteArray) t756 t757 t758 t759 t760 w0 _ ?side1 ?side2 A20.out).mono ?_); (case side1 => exact hz HI0.out); (case side2 => exact bz HB.out); rintro e w37 ⟨rfl, hi, hb, hk⟩; refine ⟨_, rfl, ?_⟩; replace BK697 := Aside0.mk (KeepBut.blk hk (g' := gb697) (o := .cells #[.int .i64 0, .int .i64 0, .int .i64 0, .int .i64 0, .string (⟨#[]⟩ : ByteArray), .int .i64 0, .string (⟨#[]⟩ : ByteArray), .slice none 0 0] 31 (0, 0)) (bp BK697.out) NB697_0.out (by simp)); replace HO728 := Aside0.mk (Kd.V_mono (Kd.V_keep (Kd.V_mono (ok := fun k_ => (((((w.heap.size ≤ k_)) ∧ (k_ ≠ gb697 ∧ k_ ≠ g)) ∧ k_ ≠ gb734) ∧ k_ ≠ gb755)) (by (with_reducible repeat (first | apply Kd.V_alloc | apply Kd.V_drewN | apply Kd.V_drew)); exact (Kd.V_mono (Kd.V_far (p := ⟨gb755, 7, none⟩) (Kd.V_far (p := ⟨gb755, 6, none⟩) (Kd.V_far (p := ⟨gb755, 5, none⟩) (Kd.V_far (p := ⟨gb755, 4, none⟩) (Kd.V_far (p := ⟨gb755, 3, none⟩) (Kd.V_far (p := ⟨gb755, 2, none⟩) (Kd.V_far (p := ⟨gb755, 1, none⟩) (Kd.V_far (p := ⟨gb755, 0, none⟩) (Kd.V_mono HO728.out (fun k_ hk => (⟨hk, hk.2⟩ : _ ∧ k_ ≠ gb755))) (fun _ hk => hk.2) (.int .i64 t740)) (fun _ hk => hk.2) (.int .i64 t741)) (fun _ hk => hk.2) (.int .i64 t742)) (fun _ hk => hk.2) (.int .i64 t743)) (fun _ hk => hk.2) (.string t744)) (fun _ hk => hk.2) (.int .i64 t745)) (fun _ hk => hk.2) (.string t746)) (fun _ hk => hk.2) (.slice Ao36 t747.length co36)) (fun _ h_ => h_.1))) (fun k_ hk_ => (⟨hk_, hk_.1.1.2.2⟩ : _ ∧ k_ ≠ g))) hk (fun _ h => h.2)) (fun _ h => h.1)); replace BK734 := Aside0.mk (KeepBut.blk hk (g' := gb734) (o := .cells #[.int .i64 t719, .int .i64 t720, .int .i64 t721, .int .i64 t722, .string t723, .int .i64 t724, .string t725, .slice Ao28 t726.length co28] 31 (0, 0)) (bp BK734.out) NB734_0.out (by simp)); replace HO749 := Aside0.mk (Kd.V_mono (Kd.V_keep (Kd.V_mono (ok := fun k_ => ((((w.heap.size ≤ k_)) ∧ (k_ ≠ gb697 ∧ (k_ ≠ gb734 ∧ k_ ≠ g))) ∧ k_ ≠ gb755)) (by (with_reducible repeat (first | apply Kd.V_alloc | apply Kd.V_drewN | apply Kd.V_drew)); exact (Kd.V_mono (Kd.V_far (p := ⟨gb755, 7, none⟩) (Kd.V_far (p := ⟨gb755, 6, none⟩) (Kd.V_far (p := ⟨gb755, 5, none⟩) (Kd.V_far (p := ⟨gb755, 4, none⟩) (Kd.V_far (p := ⟨gb755, 3, none⟩) (Kd.V_far (p := ⟨gb755, 2, none⟩) (Kd.V_far (p := ⟨gb755, 1, none⟩) (Kd.V_far (p := ⟨gb755, 0, none⟩) (Kd.V_mono HO749.out (fun k_ hk => (⟨hk, hk.2⟩ : _ ∧ k_ ≠ gb755))) (fun _ hk => hk.2) (.int .i64 t740)) (fun _ hk => hk.2) (.int .i64 t741)) (fun _ hk => hk.2) (.int .i64 t742)) (fun _ hk => hk.2) (.int .i64 t743)) (fun _ hk => hk.2) (.string t744)) (fun _ hk => hk.2) (.int .i64 t745)) (fun _ hk => hk.2) (.string t746)) (fun _ hk => hk.2) (.slice Ao36 t747.length co36)) (fun _ h_ => h_.1))) (fun k_ hk_ => (⟨hk_, hk_.1.2.2.2⟩ : _ ∧ k_ ≠ g))) hk (fun _ h => h.2)) (fun _ h => h.1)); replace BK755 := Aside0.mk (KeepBut.blk hk (g' := gb755) (o := .cells #[.int .i64 t740, .int .i64 t741, .int .i64 t742, .int .i64 t743, .string t744, .int .i64 t745, .string t746, .slice Ao36 t747.length co36] 31 (0, 0)) (bp BK755.out) NB755_0.out (by simp)); replace HK := Aside0.mk (KeepBut.trans (kz HK.out) hk (.inl rfl)); replace HB := Aside0.mk (hb); replace HI0 := Aside0.mk (hi); clear hb hk hi))
     replace HO728 := Aside0.mk (Kd.V_drew HO728.out)
     replace HO749 := Aside0.mk (Kd.V_drew HO749.out)
     replace BK697 := Aside0.mk (blk_drew BK697.out)
     replace BK734 := Aside0.mk (blk_drew BK734.out)
     replace BK755 := Aside0.mk (blk_drew BK755.out)
     replace HI0 := Aside0.mk (IsS63.drew HI0.out)
     replace HK := Aside0.mk (keep_drew HK.out)
     replace HB := Aside0.mk (below_drew1 HB.out)
     refine start_ (n := 9) (S := fun w' => w'.cell? ⟨gb734, 0, none⟩ = some (.int .i64 t719) ∧ w'.cell? ⟨gb734, 1, none⟩ = some (.int .i64 t720) ∧ w'.cell? ⟨gb734, 2, none⟩ = some (.int .i64 t721) ∧ w'.cell? ⟨gb734, 3, none⟩ = some (.int .i64 t722) ∧ w'.cell? ⟨gb734, 4, none⟩ = some (.string t723) ∧ w'.cell? ⟨gb734, 5, none⟩ = some (.int .i64 t724) ∧ w'.cell? ⟨gb734, 6, none⟩ = some (.string t725) ∧ w'.cell? ⟨gb734, 7, none⟩ = some (.slice Ao28 t726.length co28) ∧ w'.cell? ⟨gb755, 0, none⟩ = some (.int .i64 t740) ∧ w'.cell? ⟨gb755, 1, none⟩ = some (.int .i64 t741) ∧ w'.cell? ⟨gb755, 2, none⟩ = some (.int .i64 t742) ∧ w'.cell? ⟨gb755, 3, none⟩ = some (.int .i64 t743) ∧ w'.cell? ⟨gb755, 4, none⟩ = some (.string t744) ∧ w'.cell? ⟨gb755, 5, none⟩ = some (.int .i64 t745) ∧ w'.cell? ⟨gb755, 6, none⟩ = some (.string t746) ∧ w'.cell? ⟨gb755, 7, none⟩ = some (.slice Ao36 t747.length co36)) (ds := []) (bts0 9) (by kernel_rfl) rfl rfl ⟨(blk_cell BK734.out 0).trans rfl, (blk_cell BK734.out 1).trans rfl, (blk_cell BK734.out 2).trans rfl, (blk_cell BK734.out 3).trans rfl, (blk_cell BK734.out 4).trans rfl, (blk_cell BK734.out 5).trans rfl, (blk_cell BK734.out 6).trans rfl, (blk_cell BK734.out 7).trans rfl, (blk_cell BK755.out 0).trans rfl, (blk_cell BK755.out 1).trans rfl, (blk_cell BK755.out 2).trans rfl, (blk_cell BK755.out 3).trans rfl, (blk_cell BK755.out 4).trans rfl, (blk_cell BK755.out 5).trans rfl, (blk_cell BK755.out 6).trans rfl, (blk_cell BK755.out 7).trans rfl⟩ (fun hHeld => ?_); refine with_tabW expr_Parser_Expr.tab9 expr_Parser_Expr.bits9 (fun HT_ HW_ => ?_)
     generalize w37.drew = w38 at HO728 HO749 BK697 BK734 BK755 HI0 HK HB hHeld ⊢
     refine pu 0 (some 34) (bts 9 1) (any_of HT_.out (by kernel_rfl)) ?_
     refine pu 3 (some 37) (bts 9 9) (any_of HT_.out (by kernel_rfl)) ?_
     refine pu 4 (some 38) (bts 9 25) (any_of HT_.out (by kernel_rfl)) ?_
     refine ta 1 (some 35) (bts 9 27) (take_ofW HT_.out HW_.out (by kernel_rfl)) hHeld ?_
     refine ta 2 (some 36) (bts 9 31) (take_ofW HT_.out HW_.out (by kernel_rfl)) hHeld ?_
     refine one_ (i := 5) (N := some 39) (bts 9 63) rfl rfl (one_of HT_.out (by kernel_rfl)) (by decide) (fun K hK => ?_)
     refine goes_ Tryz.func31 (by kernel_rfl) rfl #[.pointer (some ⟨g, 0, none⟩), .int .i64 a1] (by rfl) rfl rfl lz ?_
     with_reducible refine (ih_expr_Parser_Expr kj3 (by have := HJ3.out; omega) g s0_0 t756 t757 t758 t759 t760 a1 t761 t762 t763 t764 t765 t766 t767 t768 t771 t772 t773 t774 t775 w0 _ ?side1 ?side2 A21.out).mono ?_
     (case side1 => exact hz HI0.out)
     (case side2 => exact bz HB.out)
     rintro e w39 ⟨v769, rfl, ho0, hi, hb, hk⟩
     refine ⟨_, rfl, ?_⟩
     replace HO728 := Aside0.mk (Kd.V_mono (Kd.V_keep (Kd.V_mono (ok := fun k_ => (((((w.heap.size ≤ k_)) ∧ (k_ ≠ gb697 ∧ k_ ≠ g)) ∧ k_ ≠ gb734) ∧ k_ ≠ gb755)) (vv HO728.out) (fun k_ hk_ => (⟨hk_, hk_.1.1.2.2⟩ : _ ∧ k_ ≠ g))) hk (fun _ h => h.2)) (fun _ h => h.1))
     replace HO749 := Aside0.mk (Kd.V_mono (Kd.V_keep (Kd.V_mono (ok := fun k_ => ((((w.heap.size ≤ k_)) ∧ (k_ ≠ gb697 ∧ (k_ ≠ gb734 ∧ k_ ≠ g))) ∧ k_ ≠ gb755)) (vv HO749.out) (fun k_ hk_ => (⟨hk_, hk_.1.2.2.2⟩ : _ ∧ k_ ≠ g))) hk (fun _ h => h.2)) (fun _ h => h.1))
     have HO770 := Aside0.mk (Kd.V_lower (Kd.V_mono (ok' := fun k_ => (w.heap.size ≤ k_) ∧ k_ ≠ gb697 ∧ k_ ≠ gb734 ∧ k_ ≠ gb755 ∧ k_ ≠ g) ho0 (fun k_ hk_ => ⟨(Nat.le_trans (keep_size (w := w) (g := g) (row := none) (kz HK.out)) hk_), (Kd.freshB (bk BK697.out) k_ hk_), (Kd.freshB (bk BK734.out) k_ hk_), (Kd.freshB (bk BK755.out) k_ hk_), (IsS63.fresh (hz HI0.out) k_ hk_)⟩)) (keep_size (w := w) (g := g) (row := none) (kz HK.out)))
     replace BK697 := Aside0.mk (KeepBut.blk hk (bk BK697.out) NB697_0.out (by simp))
     replace BK734 := Aside0.mk (KeepBut.blk hk (bk BK734.out) NB734_0.out (by simp))
     replace BK755 := Aside0.mk (KeepBut.blk hk (bk BK755.out) NB755_0.out (by simp))
     replace HK := Aside0.mk (KeepBut.trans (kz HK.out) hk (.inl rfl))
     replace HB := Aside0.mk (hb)
     replace HI0 := Aside0.mk (hi)
     (try clear hb)
     (try clear hb2)
     (try clear hk)
     (try clear hi)
     (try clear ho0)
     obtain ⟨Ao40, co40, eo40⟩ := Kd.V_slice HO770.out
     (first | subst eo40 | (injection eo40 with f1_ f2_ f3_; have f4_ := f1_.symm; have f5_ := f3_.symm; clear f1_ f2_ f3_; subst f4_; subst f5_))
     refine hK.out _ _ ⟨(blk_cell BK734.out 0).trans rfl, (blk_cell BK734.out 1).trans rfl, (blk_cell BK734.out 2).trans rfl, (blk_cell BK734.out 3).trans rfl, (blk_cell BK734.out 4).trans rfl, (blk_cell BK734.out 5).trans rfl, (blk_cell BK734.out 6).trans rfl, (blk_cell BK734.out 7).trans rfl, (blk_cell BK755.out 0).trans rfl, (blk_cell BK755.out 1).trans rfl, (blk_cell BK755.out 2).trans rfl, (blk_cell BK755.out 3).trans rfl, (blk_cell BK755.out 4).trans rfl, (blk_cell BK755.out 5).trans rfl, (blk_cell BK755.out 6).trans rfl, (blk_cell BK755.out 7).trans rfl⟩ (fun hHeld => ?_)
     clear hK K
     refine norm_ (a' := ?_) ?_ ?_
     rotate_left
     ·show Act.put _ (some 39) _ = _
      simp only [Act.put, List.setIfInBounds_toArray, List.set_cons_zero, List.set_cons_succ, i64_w, i32_w]
      rfl
     refine one_ (i := 6) (N := some 40) (bts 9 127) rfl rfl (one_of HT_.out (by kernel_rfl)) (by decide) (fun K hK => ?_)
     refine Kd.N_lit_step k31 _ 31 ?hg (N' := 40) ?hd (xs := ([(⟨t719, (⟨t720, (⟨t721, t722⟩ : S23), t723, t724⟩ : S25), t725, t726⟩ : S31), (⟨t740, (⟨t741, (⟨t742, t743⟩ : S23), t744, t745⟩ : S25), t746, t747⟩ : S31), (⟨t761, (⟨t762, (⟨t763, t764⟩ : S23), t765, t766⟩ : S25), t767, t768⟩ : S31)] : List (S31))) (inner := [.int .i64 t719, .int .i64 t720, .int .i64 t721, .int .i64 t722, .string t723, .int .i64 t724, .string t725, .slice Ao28 t726.length co28, .int .i64 t740, .int .i64 t741, .int .i64 t742, .int .i64 t743, .string t744, .int .i64 t745, .string t746, .slice Ao36 t747.length co36, .int .i64 t761, .int .i64 t762, .int .i64 t763, .int .i64 t764, .string t765, .int .i64 t766, .string t767, .slice Ao40 t768.length co40]) (ok := (fun k_ => (w.heap.size ≤ k_) ∧ k_ ≠ gb697 ∧ k_ ≠ gb734 ∧ k_ ≠ gb755 ∧ k_ ≠ g)) (okp := (fun k_ => (w.heap.size ≤ k_) ∧ k_ ≠ gb697 ∧ k_ ≠ gb734 ∧ k_ ≠ gb755 ∧ k_ ≠ g)) ?hr ?hp (fun _ hk => hk) ((show ∀ k_, w39.heap.size ≤ k_ → (fun k_ => (w.heap.size ≤ k_) ∧ k_ ≠ gb697 ∧ k_ ≠ gb734 ∧ k_ ≠ gb755 ∧ k_ ≠ g) k_ from fun k_ hk => ⟨(Nat.le_trans (keep_size (w := w) (g := g) (row := none) (kz HK.out)) hk), Kd.freshB (bk BK697.out) k_ hk, Kd.freshB (bk BK734.out) k_ hk, Kd.freshB (bk BK755.out) k_ hk, IsS63.fresh (hz HI0.out) k_ hk⟩) _ (Nat.le_refl _)) (Below.refl _ _) (Nat.le_refl _) (by simp) ?_; (case hd => rfl); (case hg => rfl); (case hr => first | (go_simp; done) | (go_simp; rfl)); (case hp => exact (Reps.c8 (show Kd.FK k31 _ _ (⟨t719, (⟨t720, (⟨t721, t722⟩ : S23), t723, t724⟩ : S25), t725, t726⟩ : S31) [.int .i64 t719, .int .i64 t720, .int .i64 t721, .int .i64 t722, .string t723, .int .i64 t724, .string t725, .slice Ao28 t726.length co28] from (k31_mkF _ _ (⟨t719, (⟨t720, (⟨t721, t722⟩ : S23), t723, t724⟩ : S25), t725, t726⟩ : S31) (Kd.V_reads' (Kd.V_mono (ok' := (fun k_ => (w.heap.size ≤ k_) ∧ k_ ≠ gb697 ∧ k_ ≠ gb734 ∧ k_ ≠ gb755 ∧ k_ ≠ g)) (HO728.out) (fun k_ hk => ⟨hk.1.1.1, ⟨hk.1.1.2.1, ⟨hk.1.2, ⟨hk.2, hk.1.1.2.2⟩⟩⟩⟩))).2.1 (Kd.V_F (Kd.V_mono (ok' := (fun k_ => (w.heap.size ≤ k_) ∧ k_ ≠ gb697 ∧ k_ ≠ gb734 ∧ k_ ≠ gb755 ∧ k_ ≠ g)) (HO728.out) (fun k_ hk => ⟨hk.1.1.1, ⟨hk.1.1.2.1, ⟨hk.1.2, ⟨hk.2, hk.1.1.2.2⟩⟩⟩⟩))))) (Reps.c8 (show Kd.FK k31 _ _ (⟨t740, (⟨t741, (⟨t742, t743⟩ : S23), t744, t745⟩ : S25), t746, t747⟩ : S31) [.int .i64 t740, .int .i64 t741, .int .i64 t742, .int .i64 t743, .string t744, .int .i64 t745, .string t746, .slice Ao36 t747.length co36] from (k31_mkF _ _ (⟨t740, (⟨t741, (⟨t742, t743⟩ : S23), t744, t745⟩ : S25), t746, t747⟩ : S31) (Kd.V_reads' (Kd.V_mono (ok' := (fun k_ => (w.heap.size ≤ k_) ∧ k_ ≠ gb697 ∧ k_ ≠ gb734 ∧ k_ ≠ gb755 ∧ k_ ≠ g)) (HO749.out) (fun k_ hk => ⟨hk.1.1, ⟨hk.1.2.1, ⟨hk.1.2.2.1, ⟨hk.2, hk.1.2.2.2⟩⟩⟩⟩))).2.1 (Kd.V_F (Kd.V_mono (ok' := (fun k_ => (w.heap.size ≤ k_) ∧ k_ ≠ gb697 ∧ k_ ≠ gb734 ∧ k_ ≠ gb755 ∧ k_ ≠ g)) (HO749.out) (fun k_ hk => ⟨hk.1.1, ⟨hk.1.2.1, ⟨hk.1.2.2.1, ⟨hk.2, hk.1.2.2.2⟩⟩⟩⟩))))) (Reps.c8 (show Kd.FK k31 _ _ (⟨t761, (⟨t762, (⟨t763, t764⟩ : S23), t765, t766⟩ : S25), t767, t768⟩ : S31) [.int .i64 t761, .int .i64 t762, .int .i64 t763, .int .i64 t764, .string t765, .int .i64 t766, .string t767, .slice Ao40 t768.length co40] from (k31_mkF _ _ (⟨t761, (⟨t762, (⟨t763, t764⟩ : S23), t765, t766⟩ : S25), t767, t768⟩ : S31) (Kd.V_reads' (Kd.V_mono (ok' := (fun k_ => (w.heap.size ≤ k_) ∧ k_ ≠ gb697 ∧ k_ ≠ gb734 ∧ k_ ≠ gb755 ∧ k_ ≠ g)) (HO770.out) (fun k_ hk => ⟨hk.1, ⟨hk.2.1, ⟨hk.2.2.1, ⟨hk.2.2.2.1, hk.2.2.2.2⟩⟩⟩⟩))).2.1 (Kd.V_F (Kd.V_mono (ok' := (fun k_ => (w.heap.size ≤ k_) ∧ k_ ≠ gb697 ∧ k_ ≠ gb734 ∧ k_ ≠ gb755 ∧ k_ ≠ g)) (HO770.out) (fun k_ hk => ⟨hk.1, ⟨hk.2.1, ⟨hk.2.2.1, ⟨hk.2.2.2.1, hk.2.2.2.2⟩⟩⟩⟩))))) (Reps.none _ _)))))
     intro v777 w41 ho42 hb hg_ hnew_
     clear hg_ hnew_
     (first | rw [← Ny776.out] at ho42 | (simp only [Int.reduceToNat] at ho42; rw [← Ny776.out] at ho42))
     replace HO728 := Aside0.mk (Kd.V_elder' (vv HO728.out) (Kd.N_base ho42) hb)
     replace HO749 := Aside0.mk (Kd.V_elder' (vv HO749.out) (Kd.N_base ho42) hb)
     replace HO770 := Aside0.mk (Kd.V_elder' (vv HO770.out) (Kd.N_base ho42) hb)
     have HO778 := Aside0.mk (Kd.N_lower ho42 (keep_size (w := w) (g := g) (row := none) (kz HK.out)))
     replace BK697 := kb BK697 hb
     replace HI0 := Aside0.mk (IsS63.below (hz HI0.out) hb)
     replace BK734 := kb BK734 hb
     replace BK755 := kb BK755 hb
     replace HK := Aside0.mk (KeepBut.trans (kz HK.out) (KeepBut.of_below hb g none) (.inl rfl))
     replace HB := sb HB hb
     clear hb ho42
     obtain ⟨Ao43, co43, eo43⟩ := Kd.N_slice HO778.out
     (first | subst eo43 | (injection eo43 with f1_ f2_ f3_; have f4_ := f1_.symm; have f5_ := f3_.symm; clear f1_ f2_ f3_; subst f4_; subst f5_))
     refine hK.out _ _ ⟨(blk_cell BK734.out 0).trans rfl, (blk_cell BK734.out 1).trans rfl, (blk_cell BK734.out 2).trans rfl, (blk_cell BK734.out 3).trans rfl, (blk_cell BK734.out 4).trans rfl, (blk_cell BK734.out 5).trans rfl, (blk_cell BK734.out 6).trans rfl, (blk_cell BK734.out 7).trans rfl, (blk_cell BK755.out 0).trans rfl, (blk_cell BK755.out 1).trans rfl, (blk_cell BK755.out 2).trans rfl, (blk_cell BK755.out 3).trans rfl, (blk_cell BK755.out 4).trans rfl, (blk_cell BK755.out 5).trans rfl, (blk_cell BK755.out 6).trans rfl, (blk_cell BK755.out 7).trans rfl⟩ (fun hHeld => ?_)
     clear hK K
     refine norm_ (a' := ?_) ?_ ?_
     rotate_left
     ·show Act.put _ (some 40) _ = _
      simp only [Act.put, List.setIfInBounds_toArray, List.set_cons_zero, List.set_cons_succ, i64_w, i32_w]
      rfl
     refine one_ (i := 7) (N := some 41) (bts 9 255) rfl rfl (one_of HT_.out (by kernel_rfl)) (by decide) (fun K hK => ?_)
     refine goes_ Tryz.func66 (by kernel_rfl) rfl #[.pointer (some ⟨g, 0, none⟩), .int .i64 17, .slice Ao43 y776.length co43] (by rfl) rfl rfl lz ?_
     with_reducible refine (expr_Parser_make.calls g s0_0 t771 t772 t773 t774 t775 17 (fun k_ => ((w.heap.size ≤ k_) ∧ (k_ ≠ gb697 ∧ (k_ ≠ gb734 ∧ (k_ ≠ gb755 ∧ k_ ≠ g))))) _ _ y776 t779 t780 t781 t782 t783 t784 t785 t786 t789 t790 t791 t792 t793 w0 _ ?side1 ?side2 ?side3 A22.out).mono ?_
     (case side1 => exact hz HI0.out)
     (case side2 => exact bz HB.out)
     (case side3 => exact Kd.V_mono (Kd.N_V (HO778.out)) (fun k_ hk_ => ⟨hk_, hk_.2.2.2.2⟩))
     rintro e w44 ⟨v787, rfl, ho0, hi, hb, hk⟩
     refine ⟨_, rfl, ?_⟩
     replace HO728 := Aside0.mk (Kd.V_mono (Kd.V_keep (Kd.V_mono (ok := fun k_ => ((((((w.heap.size ≤ k_)) ∧ (k_ ≠ gb697 ∧ k_ ≠ g)) ∧ k_ ≠ gb734) ∧ k_ ≠ gb755) ∧ some k_ ≠ (.slice Ao43 y776.length co43 : Value).ownBlock)) (vv HO728.out) (fun k_ hk_ => (⟨hk_, hk_.1.1.1.2.2⟩ : _ ∧ k_ ≠ g))) hk (fun _ h => h.2)) (fun _ h => h.1))
     replace HO749 := Aside0.mk (Kd.V_mono (Kd.V_keep (Kd.V_mono (ok := fun k_ => (((((w.heap.size ≤ k_)) ∧ (k_ ≠ gb697 ∧ (k_ ≠ gb734 ∧ k_ ≠ g))) ∧ k_ ≠ gb755) ∧ some k_ ≠ (.slice Ao43 y776.length co43 : Value).ownBlock)) (vv HO749.out) (fun k_ hk_ => (⟨hk_, hk_.1.1.2.2.2⟩ : _ ∧ k_ ≠ g))) hk (fun _ h => h.2)) (fun _ h => h.1))
     replace HO770 := Aside0.mk (Kd.V_mono (Kd.V_keep (Kd.V_mono (ok := fun k_ => ((((w.heap.size ≤ k_)) ∧ (k_ ≠ gb697 ∧ (k_ ≠ gb734 ∧ (k_ ≠ gb755 ∧ k_ ≠ g)))) ∧ some k_ ≠ (.slice Ao43 y776.length co43 : Value).ownBlock)) (vv HO770.out) (fun k_ hk_ => (⟨hk_, hk_.1.2.2.2.2⟩ : _ ∧ k_ ≠ g))) hk (fun _ h => h.2)) (fun _ h => h.1))
     replace HO778 := Aside0.mk (Kd.N_mono (Kd.N_keep (Kd.N_mono (ok := fun k_ => (((w.heap.size ≤ k_)) ∧ (k_ ≠ gb697 ∧ (k_ ≠ gb734 ∧ (k_ ≠ gb755 ∧ k_ ≠ g))))) (nn HO778.out) (fun k_ hk_ => (⟨hk_, hk_.2.2.2.2⟩ : _ ∧ k_ ≠ g))) hk (fun _ h => h.2)) (fun _ h => h.1))
     have HO788 := Aside0.mk (Kd.V_lower (Kd.V_mono (ok' := fun k_ => (w.heap.size ≤ k_) ∧ k_ ≠ gb697 ∧ k_ ≠ gb734 ∧ k_ ≠ gb755 ∧ k_ ≠ g) ho0 (fun k_ hk_ => ⟨Or.elim hk_ (fun hs_ => hs_.1) (fun hn_ => (Nat.le_trans (keep_size (w := w) (g := g) (row := none) (kz HK.out)) hn_)), Or.elim hk_ (fun hs_ => hs_.2.1) (fun hn_ => (Kd.freshB (bk BK697.out) k_ hn_)), Or.elim hk_ (fun hs_ => hs_.2.2.1) (fun hn_ => (Kd.freshB (bk BK734.out) k_ hn_)), Or.elim hk_ (fun hs_ => hs_.2.2.2.1) (fun hn_ => (Kd.freshB (bk BK755.out) k_ hn_)), Or.elim hk_ (fun hs_ => hs_.2.2.2.2) (fun hn_ => (IsS63.fresh (hz HI0.out) k_ hn_))⟩)) (keep_size (w := w) (g := g) (row := none) (kz HK.out)))
     replace BK697 := Aside0.mk (KeepBut.blk hk (bk BK697.out) NB697_0.out (by simp))
     replace BK734 := Aside0.mk (KeepBut.blk hk (bk BK734.out) NB734_0.out (by simp))
     replace BK755 := Aside0.mk (KeepBut.blk hk (bk BK755.out) NB755_0.out (by simp))
     replace HK := Aside0.mk (KeepBut.trans (kz HK.out) hk (.inl rfl))
     replace HB := Aside0.mk (hb)
     replace HI0 := Aside0.mk (hi)
     (try clear hb)
     (try clear hb2)
     (try clear hk)
     (try clear hi)
     (try clear ho0)
     obtain ⟨Ao52, co52, eo52⟩ := Kd.V_slice HO788.out
     (first | subst eo52 | (injection eo52 with f1_ f2_ f3_; have f4_ := f1_.symm; have f5_ := f3_.symm; clear f1_ f2_ f3_; subst f4_; subst f5_))
     refine hK.out _ _ ⟨(blk_cell BK734.out 0).trans rfl, (blk_cell BK734.out 1).trans rfl, (blk_cell BK734.out 2).trans rfl, (blk_cell BK734.out 3).trans rfl, (blk_cell BK734.out 4).trans rfl, (blk_cell BK734.out 5).trans rfl, (blk_cell BK734.out 6).trans rfl, (blk_cell BK734.out 7).trans rfl, (blk_cell BK755.out 0).trans rfl, (blk_cell BK755.out 1).trans rfl, (blk_cell BK755.out 2).trans rfl, (blk_cell BK755.out 3).trans rfl, (blk_cell BK755.out 4).trans rfl, (blk_cell BK755.out 5).trans rfl, (blk_cell BK755.out 6).trans rfl, (blk_cell BK755.out 7).trans rfl⟩ (fun hHeld => ?_)
     clear hK K
     refine norm_ (a' := ?_) ?_ ?_
     rotate_left
     ·show Act.put _ (some 41) _ = _
      simp only [Act.put, List.setIfInBounds_toArray, List.set_cons_zero, List.set_cons_succ, i64_w, i32_w]
      rfl
     refine one_ (i := 8) (N := none) (bts 9 511) rfl rfl (one_of HT_.out (by kernel_rfl)) (by decide) (fun K hK => ?_)
     have hs45 : w44.cell? ⟨gb697, 0, none⟩ = some (.int .i64 0) := (blk_cell BK697.out 0).trans rfl
     have hfs45 := blk_frozen BK697.out 0
     have hns45_1 := NB734_697.out
     have hns45_2 := NB755_697.out
     have hms45_1 := NB697_734.out
     have hms45_2 := NB697_755.out
     have hs46 : w44.cell? ⟨gb697, 1, none⟩ = some (.int .i64 0) := (blk_cell BK697.out 1).trans rfl
     have hfs46 := blk_frozen BK697.out 1
     have hns46_1 := NB734_697.out
     have hns46_2 := NB755_697.out
     have hms46_1 := NB697_734.out
     have hms46_2 := NB697_755.out
     have hs47 : w44.cell? ⟨gb697, 2, none⟩ = some (.int .i64 0) := (blk_cell BK697.out 2).trans rfl
     have hfs47 := blk_frozen BK697.out 2
     have hns47_1 := NB734_697.out
     have hns47_2 := NB755_697.out
     have hms47_1 := NB697_734.out
     have hms47_2 := NB697_755.out
     have hs48 : w44.cell? ⟨gb697, 3, none⟩ = some (.int .i64 0) := (blk_cell BK697.out 3).trans rfl
     have hfs48 := blk_frozen BK697.out 3
     have hns48_1 := NB734_697.out
     have hns48_2 := NB755_697.out
     have hms48_1 := NB697_734.out
     have hms48_2 := NB697_755.out
     have hs49 : w44.cell? ⟨gb697, 4, none⟩ = some (.string (⟨#[]⟩ : ByteArray)) := (blk_cell BK697.out 4).trans rfl
     have hfs49 := blk_frozen BK697.out 4
     have hns49_1 := NB734_697.out
     have hns49_2 := NB755_697.out
     have hms49_1 := NB697_734.out
     have hms49_2 := NB697_755.out
     have hs50 : w44.cell? ⟨gb697, 5, none⟩ = some (.int .i64 0) := (blk_cell BK697.out 5).trans rfl
     have hfs50 := blk_frozen BK697.out 5
     have hns50_1 := NB734_697.out
     have hns50_2 := NB755_697.out
     have hms50_1 := NB697_734.out
     have hms50_2 := NB697_755.out
     have hs51 : w44.cell? ⟨gb697, 6, none⟩ = some (.string (⟨#[]⟩ : ByteArray)) := (blk_cell BK697.out 6).trans rfl
     have hfs51 := blk_frozen BK697.out 6
     have hns51_1 := NB734_697.out
     have hns51_2 := NB755_697.out
     have hms51_1 := NB697_734.out
     have hms51_2 := NB697_755.out
     have hs53 : w44.cell? ⟨gb697, 7, none⟩ = some (.slice none 0 0) := (blk_cell BK697.out 7).trans rfl
     have hfs53 := blk_frozen BK697.out 7
     have hns53_1 := NB734_697.out
     have hns53_2 := NB755_697.out
     have hms53_1 := NB697_734.out
     have hms53_2 := NB697_755.out
     refine skip_ (w1 := ?_) (by rfl) rfl ?_ ?_
     rotate_left
     ·go_simp
      rfl
     refine hK.out _ _ ⟨(cf hHeld.1), (cf hHeld.2.1), (cf hHeld.2.2.1), (cf hHeld.2.2.2.1), (cf hHeld.2.2.2.2.1), (cf hHeld.2.2.2.2.2.1), (cf hHeld.2.2.2.2.2.2.1), (cf hHeld.2.2.2.2.2.2.2.1), (cf hHeld.2.2.2.2.2.2.2.2.1), (cf hHeld.2.2.2.2.2.2.2.2.2.1), (cf hHeld.2.2.2.2.2.2.2.2.2.2.1), (cf hHeld.2.2.2.2.2.2.2.2.2.2.2.1), (cf hHeld.2.2.2.2.2.2.2.2.2.2.2.2.1), (cf hHeld.2.2.2.2.2.2.2.2.2.2.2.2.2.1), (cf hHeld.2.2.2.2.2.2.2.2.2.2.2.2.2.2.1), (cf hHeld.2.2.2.2.2.2.2.2.2.2.2.2.2.2.2)⟩ (fun hHeld => ?_)
     clear hK K
     refine done_ (done_of HT_.out (by kernel_rfl)) ?_
     try go_wp2
     refine bodyPost_ret (results_cell_row rfl _ _ gb697 31 #[.int .i64 t779, .int .i64 t780, .int .i64 t781, .int .i64 t782, .string t783, .int .i64 t784, .string t785, .slice Ao52 t786.length co52] (0, 0) _ rfl (bp BK697.out) Tryz.underlying31 rfl (by kernel_rfl)) rfl ?_
     exact ⟨_, az, by (with_reducible repeat (first | apply Kd.V_alloc | apply Kd.V_drewN | apply Kd.V_drew)); exact Kd.V_mono (Kd.V_far (p := ⟨gb697, 7, none⟩) (Kd.V_far (p := ⟨gb697, 6, none⟩) (Kd.V_far (p := ⟨gb697, 5, none⟩) (Kd.V_far (p := ⟨gb697, 4, none⟩) (Kd.V_far (p := ⟨gb697, 3, none⟩) (Kd.V_far (p := ⟨gb697, 2, none⟩) (Kd.V_far (p := ⟨gb697, 1, none⟩) (Kd.V_far (p := ⟨gb697, 0, none⟩) (Kd.V_mono HO788.out (fun k_ hk => (⟨hk, hk.2.1⟩ : _ ∧ k_ ≠ gb697))) (fun _ hk => hk.2) (.int .i64 t779)) (fun _ hk => hk.2) (.int .i64 t780)) (fun _ hk => hk.2) (.int .i64 t781)) (fun _ hk => hk.2) (.int .i64 t782)) (fun _ hk => hk.2) (.string t783)) (fun _ hk => hk.2) (.int .i64 t784)) (fun _ hk => hk.2) (.string t785)) (fun _ hk => hk.2) (.slice Ao52 t786.length co52)) (fun _ hk => hk.1.1), hz HI0.out, bz HB.out, kz HK.out⟩
end Go.Proofs.YtgkemhgihbfmmaaGreatDoor.PA
end
section
namespace Go.Proofs.YtgkemhgihbfmmaaGreatDoor.PA
open Go.RowKit Go.Proofs.YtgkemhgihbfmmaaGreatDoorW.PrintWords Go.Proofs.YtgkemhgihbfmmaaGreatDoorW.PrintLast Go.Proofs.YtgkemhgihbfmmaaGreatDoorW.PrintMore
attribute [local go_sem] max2_int min2_int max_two min_two max_three min_three max_four min_four isSome_set str_gtr
set_option linter.unusedVariables false
set_option linter.unusedSimpArgs false
theorem expr_Parser_Expr.all (k : Nat) : (∀ (g : Nat) (s0_0 : List (S136)) (s0_1 : Int) (s0_2 : Int) (s0_3 : Int) (s0_4 : Int) (s0_5 : Int) (a1 : Int) (r1 : Int) (r2 : Int) (r3 : Int) (r4 : Int) (r5 : ByteArray) (r6 : Int) (r7 : ByteArray) (r8 : List (S31)) (r9 : Int) (r10 : Int) (r11 : Int) (r12 : Int) (r13 : Int) (w0 w : World) (hI : IsS63 w0 w g s0_0 s0_1 s0_2 s0_3 s0_4 s0_5) (hB : Below w0.heap.size w0 w) (h : expr_Parser_prefix.f k s0_0 s0_1 s0_2 s0_3 s0_4 s0_5 a1 = some (r1, r2, r3, r4, r5, r6, r7, r8, r9, r10, r11, r12, r13)),
  Calls Tryz.prog 109 #[.pointer (some ⟨g, 0, none⟩), .int .i64 a1] w fun e w' => ∃ v7_ : Value, e = .returned (.agg #[.int .i64 r1, .int .i64 r2, .int .i64 r3, .int .i64 r4, .string r5, .int .i64 r6, .string r7, v7_]) ∧ Kd.V k31 31 w' w.heap.size (fun k_ => (w.heap.size ≤ k_)) v7_ r8 ∧ IsS63 w0 w' g s0_0 r9 r10 r11 r12 r13 ∧ Below w0.heap.size w0 w' ∧ KeepBut w w' g none) ∧
 (∀ (g : Nat) (s0_0 : List (S136)) (s0_1 : Int) (s0_2 : Int) (s0_3 : Int) (s0_4 : Int) (s0_5 : Int) (a1 : Int) (a2 : Int) (r1 : Int) (r2 : Int) (r3 : Int) (r4 : Int) (r5 : ByteArray) (r6 : Int) (r7 : ByteArray) (r8 : List (S31)) (r9 : Int) (r10 : Int) (r11 : Int) (r12 : Int) (r13 : Int) (w0 w : World) (hI : IsS63 w0 w g s0_0 s0_1 s0_2 s0_3 s0_4 s0_5) (hB : Below w0.heap.size w0 w) (h : expr_Parser_chain.f k s0_0 s0_1 s0_2 s0_3 s0_4 s0_5 a1 a2 = some (r1, r2, r3, r4, r5, r6, r7, r8, r9, r10, r11, r12, r13)),
  Calls Tryz.prog 64 #[.pointer (some ⟨g, 0, none⟩), .int .i64 a1, .int .i64 a2] w fun e w' => ∃ v7_ : Value, e = .returned (.agg #[.int .i64 r1, .int .i64 r2, .int .i64 r3, .int .i64 r4, .string r5, .int .i64 r6, .string r7, v7_]) ∧ Kd.V k31 31 w' w.heap.size (fun k_ => (w.heap.size ≤ k_)) v7_ r8 ∧ IsS63 w0 w' g s0_0 r9 r10 r11 r12 r13 ∧ Below w0.heap.size w0 w' ∧ KeepBut w w' g none) ∧
 (∀ (g : Nat) (s0_0 : List (S136)) (s0_1 : Int) (s0_2 : Int) (s0_3 : Int) (s0_4 : Int) (s0_5 : Int) (a1 : Int) (r1 : Int) (r2 : Int) (r3 : Int) (r4 : Int) (r5 : ByteArray) (r6 : Int) (r7 : ByteArray) (r8 : List (S31)) (r9 : Int) (r10 : Int) (r11 : Int) (r12 : Int) (r13 : Int) (w0 w : World) (hI : IsS63 w0 w g s0_0 s0_1 s0_2 s0_3 s0_4 s0_5) (hB : Below w0.heap.size w0 w) (h : expr_Parser_Expr.f k s0_0 s0_1 s0_2 s0_3 s0_4 s0_5 a1 = some (r1, r2, r3, r4, r5, r6, r7, r8, r9, r10, r11, r12, r13)),
  Calls Tryz.prog 31 #[.pointer (some ⟨g, 0, none⟩), .int .i64 a1] w fun e w' => ∃ v7_ : Value, e = .returned (.agg #[.int .i64 r1, .int .i64 r2, .int .i64 r3, .int .i64 r4, .string r5, .int .i64 r6, .string r7, v7_]) ∧ Kd.V k31 31 w' w.heap.size (fun k_ => (w.heap.size ≤ k_)) v7_ r8 ∧ IsS63 w0 w' g s0_0 r9 r10 r11 r12 r13 ∧ Below w0.heap.size w0 w' ∧ KeepBut w w' g none) := by
 induction k using Nat.strongRecOn with
 | _ k ih => exact ⟨expr_Parser_prefix.step k (fun k' hk' => (ih k' hk').1) (fun k' hk' => (ih k' hk').2.1) (fun k' hk' => (ih k' hk').2.2), expr_Parser_chain.step k (fun k' hk' => (ih k' hk').1) (fun k' hk' => (ih k' hk').2.1) (fun k' hk' => (ih k' hk').2.2), expr_Parser_Expr.step k (fun k' hk' => (ih k' hk').1) (fun k' hk' => (ih k' hk').2.1) (fun k' hk' => (ih k' hk').2.2)⟩
theorem expr_Parser_prefix.calls (k : Nat) : ∀ (g : Nat) (s0_0 : List (S136)) (s0_1 : Int) (s0_2 : Int) (s0_3 : Int) (s0_4 : Int) (s0_5 : Int) (a1 : Int) (r1 : Int) (r2 : Int) (r3 : Int) (r4 : Int) (r5 : ByteArray) (r6 : Int) (r7 : ByteArray) (r8 : List (S31)) (r9 : Int) (r10 : Int) (r11 : Int) (r12 : Int) (r13 : Int) (w0 w : World) (hI : IsS63 w0 w g s0_0 s0_1 s0_2 s0_3 s0_4 s0_5) (hB : Below w0.heap.size w0 w) (h : expr_Parser_prefix.f k s0_0 s0_1 s0_2 s0_3 s0_4 s0_5 a1 = some (r1, r2, r3, r4, r5, r6, r7, r8, r9, r10, r11, r12, r13)),
  Calls Tryz.prog 109 #[.pointer (some ⟨g, 0, none⟩), .int .i64 a1] w fun e w' => ∃ v7_ : Value, e = .returned (.agg #[.int .i64 r1, .int .i64 r2, .int .i64 r3, .int .i64 r4, .string r5, .int .i64 r6, .string r7, v7_]) ∧ Kd.V k31 31 w' w.heap.size (fun k_ => (w.heap.size ≤ k_)) v7_ r8 ∧ IsS63 w0 w' g s0_0 r9 r10 r11 r12 r13 ∧ Below w0.heap.size w0 w' ∧ KeepBut w w' g none := (expr_Parser_Expr.all k).1
theorem expr_Parser_chain.calls (k : Nat) : ∀ (g : Nat) (s0_0 : List (S136)) (s0_1 : Int) (s0_2 : Int) (s0_3 : Int) (s0_4 : Int) (s0_5 : Int) (a1 : Int) (a2 : Int) (r1 : Int) (r2 : Int) (r3 : Int) (r4 : Int) (r5 : ByteArray) (r6 : Int) (r7 : ByteArray) (r8 : List (S31)) (r9 : Int) (r10 : Int) (r11 : Int) (r12 : Int) (r13 : Int) (w0 w : World) (hI : IsS63 w0 w g s0_0 s0_1 s0_2 s0_3 s0_4 s0_5) (hB : Below w0.heap.size w0 w) (h : expr_Parser_chain.f k s0_0 s0_1 s0_2 s0_3 s0_4 s0_5 a1 a2 = some (r1, r2, r3, r4, r5, r6, r7, r8, r9, r10, r11, r12, r13)),
  Calls Tryz.prog 64 #[.pointer (some ⟨g, 0, none⟩), .int .i64 a1, .int .i64 a2] w fun e w' => ∃ v7_ : Value, e = .returned (.agg #[.int .i64 r1, .int .i64 r2, .int .i64 r3, .int .i64 r4, .string r5, .int .i64 r6, .string r7, v7_]) ∧ Kd.V k31 31 w' w.heap.size (fun k_ => (w.heap.size ≤ k_)) v7_ r8 ∧ IsS63 w0 w' g s0_0 r9 r10 r11 r12 r13 ∧ Below w0.heap.size w0 w' ∧ KeepBut w w' g none := (expr_Parser_Expr.all k).2.1
theorem expr_Parser_Expr.calls (k : Nat) : ∀ (g : Nat) (s0_0 : List (S136)) (s0_1 : Int) (s0_2 : Int) (s0_3 : Int) (s0_4 : Int) (s0_5 : Int) (a1 : Int) (r1 : Int) (r2 : Int) (r3 : Int) (r4 : Int) (r5 : ByteArray) (r6 : Int) (r7 : ByteArray) (r8 : List (S31)) (r9 : Int) (r10 : Int) (r11 : Int) (r12 : Int) (r13 : Int) (w0 w : World) (hI : IsS63 w0 w g s0_0 s0_1 s0_2 s0_3 s0_4 s0_5) (hB : Below w0.heap.size w0 w) (h : expr_Parser_Expr.f k s0_0 s0_1 s0_2 s0_3 s0_4 s0_5 a1 = some (r1, r2, r3, r4, r5, r6, r7, r8, r9, r10, r11, r12, r13)),
  Calls Tryz.prog 31 #[.pointer (some ⟨g, 0, none⟩), .int .i64 a1] w fun e w' => ∃ v7_ : Value, e = .returned (.agg #[.int .i64 r1, .int .i64 r2, .int .i64 r3, .int .i64 r4, .string r5, .int .i64 r6, .string r7, v7_]) ∧ Kd.V k31 31 w' w.heap.size (fun k_ => (w.heap.size ≤ k_)) v7_ r8 ∧ IsS63 w0 w' g s0_0 r9 r10 r11 r12 r13 ∧ Below w0.heap.size w0 w' ∧ KeepBut w w' g none := (expr_Parser_Expr.all k).2.2
end Go.Proofs.YtgkemhgihbfmmaaGreatDoor.PA
end
section
namespace Go.Proofs.YtgkemhgihbfmmaaGreatDoor.PA
open Go.RowKit Go.Proofs.YtgkemhgihbfmmaaGreatDoorW.PrintWords Go.Proofs.YtgkemhgihbfmmaaGreatDoorW.PrintLast Go.Proofs.YtgkemhgihbfmmaaGreatDoorW.PrintMore
attribute [local go_sem] max2_int min2_int max_two min_two max_three min_three max_four min_four isSome_set str_gtr
set_option linter.unusedVariables false
set_option linter.unusedSimpArgs false
def expr_Parser_Ended.f (s0_0 : List (S136)) (s0_1 : Int) (s0_2 : Int) (s0_3 : Int) (s0_4 : Int) (s0_5 : Int) : Option (Bool × Int × Int × Int × Int × Int) := if s0_4 = 0 then (some ((s0_1 == (s0_0.length : Int)), s0_1, s0_2, s0_3, s0_4, s0_5)) else (some (false, s0_1, s0_2, s0_3, s0_4, s0_5))
set_option maxHeartbeats 8000000 in
set_option maxRecDepth 100000 in
theorem expr_Parser_Ended.calls (g : Nat) (s0_0 : List (S136)) (s0_1 : Int) (s0_2 : Int) (s0_3 : Int) (s0_4 : Int) (s0_5 : Int) (r1 : Bool) (r2 : Int) (r3 : Int) (r4 : Int) (r5 : Int) (r6 : Int) (w0 w : World) (hI : IsS63 w0 w g s0_0 s0_1 s0_2 s0_3 s0_4 s0_5) (hB : Below w0.heap.size w0 w) (h : expr_Parser_Ended.f s0_0 s0_1 s0_2 s0_3 s0_4 s0_5 = some (r1, r2, r3, r4, r5, r6)) :
  Calls Tryz.prog 32 #[.pointer (some ⟨g, 0, none⟩)] w fun e w' => e = .returned (.bool r1) ∧ IsS63 w0 w' g s0_0 r2 r3 r4 r5 r6 ∧ Below w0.heap.size w0 w' ∧ KeepBut w w' g none := by
 have HI0 := Aside0.mk hI
 have HK := Aside0.mk (KeepBut.refl w g none)
 have HL := Aside0.mk hB.size
 clear hI
 have HW0 := Aside0.mk hB.size
 have HB := Aside0.mk hB
 clear hB
 have H : (if s0_4 = 0 then (some ((s0_1 == (s0_0.length : Int)), s0_1, s0_2, s0_3, s0_4, s0_5)) else (some (false, s0_1, s0_2, s0_3, s0_4, s0_5))) = some (r1, r2, r3, r4, r5, r6) := h
 clear h
 by_cases c2 : s0_4 = 0
 ·rw [if_pos c2] at H
  have c2b0 : (s0_4 == 0) = true := beq_iff_eq.mpr c2
  have c2b1 : (s0_4 != 0) = false := bne_eq_false_iff_eq.mpr c2
  clear c2
  simp only [Option.some.injEq, Prod.mk.injEq] at H
  obtain ⟨rfl, rfl, rfl, rfl, rfl, rfl⟩ := H
  obtain ⟨ASz3_0, cSz3_0, HSz3_0, Z3_0, Z3_1, Z3_2, Z3_3, Z3_4, Z3_5, F3_1, F3_2, F3_3, F3_4, F3_5⟩ := open63 HI0.out
  go_enter Tryz.func32, Tryz.ntmps32
  go_wp2
  repeat (go_quiet (fail); try go_wp2)
  go_ret
  exact ⟨az, hz HI0.out, bz HB.out, kz HK.out⟩
 ·rw [if_neg c2] at H
  have c2b0 : (s0_4 == 0) = false := beq_eq_false_iff_ne.mpr c2
  have c2b1 : (s0_4 != 0) = true := bne_iff_ne.mpr c2
  simp only [Option.some.injEq, Prod.mk.injEq] at H
  obtain ⟨rfl, rfl, rfl, rfl, rfl, rfl⟩ := H
  obtain ⟨ASz4_0, cSz4_0, HSz4_0, Z4_0, Z4_1, Z4_2, Z4_3, Z4_4, Z4_5, F4_1, F4_2, F4_3, F4_4, F4_5⟩ := open63 HI0.out
  go_enter Tryz.func32, Tryz.ntmps32
  go_wp2
  repeat (go_quiet (fail); try go_wp2)
  go_ret
  exact ⟨az, hz HI0.out, bz HB.out, kz HK.out⟩
end Go.Proofs.YtgkemhgihbfmmaaGreatDoor.PA
end
section
namespace Go.Proofs.YtgkemhgihbfmmaaGreatDoor.PA
open Go.RowKit Go.Proofs.YtgkemhgihbfmmaaGreatDoorW.PrintWords Go.Proofs.YtgkemhgihbfmmaaGreatDoorW.PrintLast Go.Proofs.YtgkemhgihbfmmaaGreatDoorW.PrintMore
attribute [local go_sem] max2_int min2_int max_two min_two max_three min_three max_four min_four isSome_set str_gtr
set_option linter.unusedVariables false
set_option linter.unusedSimpArgs false
def expr_Parser_Error.f (s0_0 : List (S136)) (s0_1 : Int) (s0_2 : Int) (s0_3 : Int) (s0_4 : Int) (s0_5 : Int) : Option (Int × Int × Int × Int × Int × Int × Int) := some (s0_3, s0_4, s0_1, s0_2, s0_3, s0_4, s0_5)
set_option maxHeartbeats 8000000 in
set_option maxRecDepth 100000 in
theorem expr_Parser_Error.calls (g : Nat) (s0_0 : List (S136)) (s0_1 : Int) (s0_2 : Int) (s0_3 : Int) (s0_4 : Int) (s0_5 : Int) (r1 : Int) (r2 : Int) (r3 : Int) (r4 : Int) (r5 : Int) (r6 : Int) (r7 : Int) (w0 w : World) (hI : IsS63 w0 w g s0_0 s0_1 s0_2 s0_3 s0_4 s0_5) (hB : Below w0.heap.size w0 w) (h : expr_Parser_Error.f s0_0 s0_1 s0_2 s0_3 s0_4 s0_5 = some (r1, r2, r3, r4, r5, r6, r7)) :
  Calls Tryz.prog 34 #[.pointer (some ⟨g, 0, none⟩)] w fun e w' => e = .returned (.tuple #[.int .i64 r1, .int .i64 r2]) ∧ IsS63 w0 w' g s0_0 r3 r4 r5 r6 r7 ∧ Below w0.heap.size w0 w' ∧ KeepBut w w' g none := by
 have HI0 := Aside0.mk hI
 have HK := Aside0.mk (KeepBut.refl w g none)
 have HL := Aside0.mk hB.size
 clear hI
 have HW0 := Aside0.mk hB.size
 have HB := Aside0.mk hB
 clear hB
 have H : (some (s0_3, s0_4, s0_1, s0_2, s0_3, s0_4, s0_5)) = some (r1, r2, r3, r4, r5, r6, r7) := h
 clear h
 simp only [Option.some.injEq, Prod.mk.injEq] at H
 obtain ⟨rfl, rfl, rfl, rfl, rfl, rfl, rfl⟩ := H
 obtain ⟨ASz2_0, cSz2_0, HSz2_0, Z2_0, Z2_1, Z2_2, Z2_3, Z2_4, Z2_5, F2_1, F2_2, F2_3, F2_4, F2_5⟩ := open63 HI0.out
 go_enter Tryz.func34, Tryz.ntmps34
 go_wp2
 repeat (go_quiet (fail); try go_wp2)
 go_ret2
 exact ⟨az, hz HI0.out, bz HB.out, kz HK.out⟩
end Go.Proofs.YtgkemhgihbfmmaaGreatDoor.PA
end
section
namespace Go.Proofs.YtgkemhgihbfmmaaGreatDoor.PA
open Go.RowKit Go.Proofs.YtgkemhgihbfmmaaGreatDoorW.PrintWords Go.Proofs.YtgkemhgihbfmmaaGreatDoorW.PrintLast Go.Proofs.YtgkemhgihbfmmaaGreatDoorW.PrintMore
attribute [local go_sem] max2_int min2_int max_two min_two max_three min_three max_four min_four isSome_set str_gtr
set_option linter.unusedVariables false
set_option linter.unusedSimpArgs false
end Go.Proofs.YtgkemhgihbfmmaaGreatDoor.PA
end
section
namespace Go.Proofs.YtgkemhgihbfmmaaGreatDoor.PA
open Go.RowKit Go.Proofs.YtgkemhgihbfmmaaGreatDoorW.PrintWords Go.Proofs.YtgkemhgihbfmmaaGreatDoorW.PrintLast Go.Proofs.YtgkemhgihbfmmaaGreatDoorW.PrintMore
def expr_NewParser.f (k : Nat) (a0 : ByteArray) : Option (List S136 × Int × Int × Int × Int × Int) := (lex_Tokens.f k a0).bind fun r => some (r.1, 0, (a0.size : Int), r.2.1, r.2.2, 0)
theorem expr_NewParser.mono : ∀ a0 k, LeO (expr_NewParser.f k a0) (expr_NewParser.f (k + 1) a0) := fun a0 k => LeO.bind (lex_Tokens.mono a0 k) fun _ => LeO.refl _
set_option maxHeartbeats 4000000 in
set_option maxRecDepth 100000 in
theorem expr_NewParser.calls (k : Nat) (a0 : ByteArray) (t0 : List S136) (t1 t2 t3 t4 t5 : Int) (w : World) (hT : Tabs w) (h : expr_NewParser.f k a0 = some (t0, t1, t2, t3, t4, t5)) :
    Calls Tryz.prog 30 #[.string a0] w fun e w' => ∃ g w1, e = .returned (.pointer (some ⟨g, 0, none⟩)) ∧ IsS63 w1 w' g t0 t1 t2 t3 t4 t5 ∧ Below w.heap.size w w1 ∧ Below w1.heap.size w1 w' := by
  obtain ⟨⟨l, x3, x4⟩, hk, h⟩ := Option.bind_eq_some_iff.mp h
  simp only [Option.some.injEq, Prod.mk.injEq] at h
  obtain ⟨rfl, rfl, rfl, rfl, rfl, rfl⟩ := h
  have cK := lex_Tokens.calls k a0 l x3 x4 w hT hk
  have hu63 := Tryz.underlying63
  clear hk hT
  go_enter Tryz.func30, Tryz.ntmps30
  go_wp2_with (go_at_call 62; refine cK.mono ?_; rintro e w1 ⟨v, rfl, hR, hb⟩; obtain ⟨A, c, rfl⟩ := Kd.R_slice hR; have HR := Aside0.mk hR; have HB := Aside0.mk hb; clear hR hb)
  go_ret
  exact ⟨w1.heap.size, w1, rfl, ⟨A, c, blk_new w1 _, Nat.le_refl _, (Kd.R_reads' HR.out).2.2⟩, HB.out, below_alloc (Below.refl _ _) _⟩
end Go.Proofs.YtgkemhgihbfmmaaGreatDoor.PA
end
section
namespace Go.Proofs.YtgkemhgihbfmmaaGreatDoor.PA
open Go.RowKit Go.Proofs.YtgkemhgihbfmmaaGreatDoorW.PrintWords Go.Proofs.YtgkemhgihbfmmaaGreatDoorW.PrintLast Go.Proofs.YtgkemhgihbfmmaaGreatDoorW.PrintMore
attribute [local go_sem] isSome_set
def badPart (k : Nat) (x : S31) : Option Bool :=
  if (x.f0 == 2) != (x.f2.toList != []) then some true
  else (if x.f0 = 2 then (lex_Word.f k x.f2).bind fun ok => some (!ok) else some false).bind fun b1 =>
    if b1 = true then some true
    else if x.f0 ≠ 1 ∧ ¬ (x.f1.f0 = 0 ∧ x.f1.f1.f0 = 0 ∧ x.f1.f1.f1 = 0 ∧ x.f1.f2 = ⟨#[]⟩ ∧ x.f1.f3 = 0) then some true
    else (value_Sound.f k x.f1.f0 x.f1.f1.f0 x.f1.f1.f1 x.f1.f2 x.f1.f3).bind fun ok => some (!ok || decide (x.f1.f1.f0 < 0))
def allSound (s : S31 → Int → Option (Bool × Int)) : List S31 → Int → Option (Bool × Int)
  | [], L => some (true, L)
  | y :: t, L => (s y L).bind fun r => if r.1 = true then allSound s t r.2 else some (false, r.2)
def soundF : Nat → S31 → Int → Int → Option (Bool × Int)
  | 0, _, _, _ => none
  | k + 1, x, d, left =>
    if 64 < d then some (false, wrap64 (left - 1)) else if wrap64 (left - 1) < 0 then some (false, wrap64 (left - 1)) else
    (expr_kids.f k x.f0).bind fun n => if ¬ (x.f3.length : Int) = n then some (false, wrap64 (left - 1)) else
    (badPart k x).bind fun b => if b = true then some (false, wrap64 (left - 1)) else
    if x.f3.length < 4611686018427387904 then allSound (fun y L => soundF k y (wrap64 (d + 1)) L) x.f3 (wrap64 (left - 1)) else none
def expr_Sound.f (k : Nat) (a0 a1 a2 a3 : Int) (a4 : ByteArray) (a5 : Int) (a6 : ByteArray) (l7 : List S31) : Option Bool := (soundF k ⟨a0, ⟨a1, ⟨a2, a3⟩, a4, a5⟩, a6, l7⟩ 1 4096).bind fun r => some r.1
theorem allSound_mono {s s' : S31 → Int → Option (Bool × Int)} (h : ∀ y L, LeO (s y L) (s' y L)) : ∀ (l : List S31) (L : Int), LeO (allSound s l L) (allSound s' l L)
  | [], _ => LeO.refl _
  | y :: t, L => LeO.bind (h y L) fun r => LeO.ite (allSound_mono h t r.2) (LeO.refl _)
theorem badPart_mono (k : Nat) (x : S31) : LeO (badPart k x) (badPart (k + 1) x) := by
  unfold badPart
  refine LeO.ite (LeO.refl _) (LeO.bind ?_ fun b => ?_)
  · exact LeO.ite (LeO.bind (lex_Word.mono _ k) fun _ => LeO.refl _) (LeO.refl _)
  · exact LeO.ite (LeO.refl _) (LeO.ite (LeO.refl _) (LeO.bind (value_Sound.mono _ _ _ _ _ k) fun _ => LeO.refl _))
theorem soundF_mono : ∀ (k : Nat) (x : S31) (d left : Int), LeO (soundF k x d left) (soundF (k + 1) x d left)
  | 0, _, _, _ => LeO.none _
  | k + 1, x, d, left => by
    unfold soundF
    refine LeO.ite (LeO.refl _) (LeO.ite (LeO.refl _) (LeO.bind (expr_kids.mono _ k) fun n => LeO.ite (LeO.refl _) (LeO.bind (badPart_mono k x) fun b => LeO.ite (LeO.refl _) (LeO.ite ?_ (LeO.refl _)))))
    exact allSound_mono (fun y L => soundF_mono k y _ L) _ _
theorem expr_Sound.mono : ∀ a0 a1 a2 a3 a4 a5 a6 a7 k, LeO (expr_Sound.f k a0 a1 a2 a3 a4 a5 a6 a7) (expr_Sound.f (k + 1) a0 a1 a2 a3 a4 a5 a6 a7) := fun _ _ _ _ _ _ _ _ k => LeO.bind (soundF_mono k _ _ _) fun _ => LeO.refl _
abbrev cells31 (x : S31) (A : Option Addr) (c : Nat) : Array Value := #[.int .i64 x.f0, .int .i64 x.f1.f0, .int .i64 x.f1.f1.f0, .int .i64 x.f1.f1.f1, .string x.f1.f2, .int .i64 x.f1.f3, .string x.f2, .slice A x.f3.length c]
def SoundAt (k : Nat) : Prop := ∀ (x : S31) (A : Option Addr) (c : Nat) (d left : Int) (gl : Nat) (b : Bool) (L : Int) (w0 w : World) (_ : Kd.C k31 w0 A x.f3.length x.f3) (_ : x.f3.length ≤ c) (_ : Tabs w0) (_ : Below w0.heap.size w0 w) (_ : w.heap[gl]? = some (.cells #[.int .i64 left] 3 (0, 0))) (_ : w0.heap.size ≤ gl) (_ : soundF k x d left = some (b, L)),
  Calls Tryz.prog 68 #[.agg (cells31 x A c), .int .i64 d, .pointer (some ⟨gl, 0, none⟩)] w fun e w' => e = .returned (.bool b) ∧ Below w0.heap.size w0 w' ∧ w'.heap[gl]? = some (.cells #[.int .i64 L] 3 (0, 0)) ∧ KeepBut w w' gl none
set_option maxHeartbeats 4000000 in
set_option maxRecDepth 100000 in
theorem sound1_calls {k : Nat} (ih : SoundAt k) (x : S31) (A : Option Addr) (c : Nat) (d left : Int) (gl bd bp : Nat) (b : Bool) (L : Int) (w0 w : World) (hC : Kd.C k31 w0 A x.f3.length x.f3) (hc : x.f3.length ≤ c) (hT : Tabs w0) (hB : Below w0.heap.size w0 w) (hg : w.heap[gl]? = some (.cells #[.int .i64 left] 3 (0, 0))) (hge : w0.heap.size ≤ gl)
    (hd : w.heap[bd]? = some (.cells #[.int .i64 d] 3 (0, 0))) (hp : w.heap[bp]? = some (.cells #[.pointer (some ⟨gl, 0, none⟩)] 98 (0, 0))) (h : soundF k x (wrap64 (d + 1)) left = some (b, L)) :
    Calls Tryz.prog 114 #[.agg (cells31 x A c), .pointer (some ⟨bd, 0, none⟩), .pointer (some ⟨bp, 0, none⟩)] w fun e w' => e = .returned (.bool (!b)) ∧ Below w0.heap.size w0 w' ∧ w'.heap[gl]? = some (.cells #[.int .i64 L] 3 (0, 0)) ∧ KeepBut w w' gl none := by
  have HB := Aside0.mk hB
  have HG := Aside0.mk hg
  have HD := Aside0.mk hd
  have HP := Aside0.mk hp
  have HS := Aside0.mk hB.size
  have hu31 := Tryz.underlying31
  clear hB hg hd hp
  have e68 : ∀ args w, (callFunc 68 args).run Tryz.prog w = .ok (.enter 68 args) w := enters_of Tryz.func68 (by kernel_rfl) rfl
  go_enter Tryz.func114, Tryz.ntmps114
  go_wp2_with (first
    | ((with_reducible refine gate_dst (N := 3) rfl ?_); refine bev (cells31 x A c) 31 ?_; intro gx hgx w1 hbox hb1
       have HX := Aside0.mk hbox; have HG1 := Aside0.mk (blk_below HG.out hb1); have HD1 := Aside0.mk (blk_below HD.out hb1); have HP1 := Aside0.mk (blk_below HP.out hb1)
       have HB1 := Aside0.mk (HB.out.trans (hb1.mono HS.out)); have HK1 := Aside0.mk (KeepBut.of_below hb1 gl none)
       have hcx := cz8 HX.out; have hcd := czc1 HD1.out; have hcp := czc1 HP1.out; obtain ⟨q0, q1, q2, q3, q4, q5, q6, q7, _⟩ := hcx; clear hgx hbox hb1)
    | (go_at_call 68; refine (ih x A c (wrap64 (d + 1)) left gl b L w0 _ hC hc hT HB1.out HG1.out hge h).mono ?_; rintro e w2 ⟨rfl, hb2, hg2, hk2⟩))
  go_ret
  exact ⟨rfl, hb2, hg2, KeepBut.trans HK1.out hk2 (.inl rfl)⟩
theorem drop_at {l : List S31} {i : Nat} (h : i < l.length) : l.drop i = rd_T31 l (i : Int) :: l.drop (i + 1) := by
  rw [List.drop_eq_getElem_cons h]
  congr 1
  show _ = l.getD (Int.toNat (i : Int)) z31
  rw [Int.toNat_natCast, List.getD_eq_getElem?_getD, List.getElem?_eq_getElem h, Option.getD_some]
set_option maxHeartbeats 4000000 in
set_option maxRecDepth 100000 in
theorem idx31 {k : Nat} (ih : SoundAt k) (l : List S31) (A0 : Option Addr) (c0 : Nat) (d left : Int) (gl bd bp : Nat) (b : Bool) (L : Int) (w0 w : World) (hC : Kd.C k31 w0 A0 l.length l) (hT : Tabs w0) (hB : Below w0.heap.size w0 w) (hg : w.heap[gl]? = some (.cells #[.int .i64 left] 3 (0, 0))) (hge : w0.heap.size ≤ gl)
    (hd : w.heap[bd]? = some (.cells #[.int .i64 d] 3 (0, 0))) (hp : w.heap[bp]? = some (.cells #[.pointer (some ⟨gl, 0, none⟩)] 98 (0, 0))) (hnd : bd ≠ gl) (hnp : bp ≠ gl) (hbig : l.length < 4611686018427387904) (h : allSound (fun y L => soundF k y (wrap64 (d + 1)) L) l left = some (b, L)) :
    Calls Tryz.prog 154 #[.slice A0 l.length c0, .func (.func 114) #[] #[.pointer (some ⟨bd, 0, none⟩), .pointer (some ⟨bp, 0, none⟩)]] w fun e w' => ∃ i : Int, e = .returned (.int .i64 i) ∧ decide (0 ≤ i) = !b ∧ Below w0.heap.size w0 w' ∧ w'.heap[gl]? = some (.cells #[.int .i64 L] 3 (0, 0)) ∧ KeepBut w w' gl none := by
  have eg : ∀ args w, (callFunc 114 args).run Tryz.prog w = .ok (.enter 114 args) w := enters_of Tryz.func114 (by kernel_rfl) rfl
  have hu31 := Tryz.underlying31
  have H0 : Aside0 (allSound (fun y L => soundF k y (wrap64 (d + 1)) L) (l.drop 0) left = some (b, L)) := ⟨h⟩
  have HC := Aside0.mk hC
  have HB := Aside0.mk hB
  have HG := Aside0.mk hg
  have HD := Aside0.mk hd
  have HP := Aside0.mk hp
  clear h hC hB hg hd hp
  go_enter Tryz.func154, Tryz.ntmps154
  go_wp2
  go_loopg [5, 8] l.length (fun gg _ s8 wr => ∃ (kk : Nat) (Lk : Int), kk + gg = l.length ∧ s8 = .int .i64 kk ∧ Aside0 (allSound (fun y L => soundF k y (wrap64 (d + 1)) L) (l.drop kk) Lk = some (b, L)) ∧ Aside0 (Below w0.heap.size w0 wr) ∧ Aside0 (wr.heap[gl]? = some (.cells #[.int .i64 Lk] 3 (0, 0))) ∧ Aside0 (KeepBut w wr gl none))
  case atStart => exact ⟨0, left, Nat.zero_add _, rfl, H0, HB, HG, ⟨KeepBut.refl w gl none⟩⟩
  case round =>
    obtain ⟨kk, Lk, hkg, rfl, HA, HB1, HG1, HK1⟩ := hrel
    cases gk with
    | zero =>
      have d1 : decide ((kk : Int) < (l.length : Int)) = false := decide_eq_false (by omega)
      have hA := HA.out
      rw [List.drop_eq_nil_of_le (by omega)] at hA
      simp only [allSound, Option.some.injEq, Prod.mk.injEq] at hA
      obtain ⟨rfl, rfl⟩ := hA
      go_wp2
      go_ret
      exact ⟨_, rfl, rfl, HB1.out, HG1.out, HK1.out⟩
    | succ n =>
      have d1 : decide ((kk : Int) < (l.length : Int)) = true := decide_eq_true (by omega)
      have p1 : (0 : Int) ≤ (kk : Int) := by omega
      have q1 : (kk : Int) < (l.length : Int) := by omega
      obtain ⟨ad, A7, c7, e1, h0, h1, h2, h3, h4, h5, h6, h7, l7, g7⟩ := at_T31 HC.out (kk : Int) p1 q1
      cases e1
      have hA := HA.out
      rw [drop_at (by omega)] at hA
      generalize hy : rd_T31 l (kk : Int) = y at hA h0 h1 h2 h3 h4 h5 h6 h7 l7 g7
      clear hy
      have h0 : wr.cell? (ad.add (kk * 8)) = some (.int .i64 y.f0) := pw_cell_below HB1.out h0
      have h1 : wr.cell? ⟨(ad.add (kk * 8)).block, (ad.add (kk * 8)).off + 1, none⟩ = some (.int .i64 y.f1.f0) := pw_cell_below HB1.out h1
      have h2 : wr.cell? ⟨(ad.add (kk * 8)).block, (ad.add (kk * 8)).off + 2, none⟩ = some (.int .i64 y.f1.f1.f0) := pw_cell_below HB1.out h2
      have h3 : wr.cell? ⟨(ad.add (kk * 8)).block, (ad.add (kk * 8)).off + 3, none⟩ = some (.int .i64 y.f1.f1.f1) := pw_cell_below HB1.out h3
      have h4 : wr.cell? ⟨(ad.add (kk * 8)).block, (ad.add (kk * 8)).off + 4, none⟩ = some (.string y.f1.f2) := pw_cell_below HB1.out h4
      have h5 : wr.cell? ⟨(ad.add (kk * 8)).block, (ad.add (kk * 8)).off + 5, none⟩ = some (.int .i64 y.f1.f3) := pw_cell_below HB1.out h5
      have h6 : wr.cell? ⟨(ad.add (kk * 8)).block, (ad.add (kk * 8)).off + 6, none⟩ = some (.string y.f2) := pw_cell_below HB1.out h6
      have h7 : wr.cell? ⟨(ad.add (kk * 8)).block, (ad.add (kk * 8)).off + 7, none⟩ = some (.slice A7 y.f3.length c7) := pw_cell_below HB1.out h7
      have i1 := eq_true p1
      have i2 := eq_true q1
      have i3 : (kk < l.length) = True := eq_true (by omega)
      simp only [allSound] at hA
      replace hA := Option.bind_eq_some_iff.mp hA
      obtain ⟨⟨b1, L1⟩, hIs, hA⟩ := hA
      have hd1 : wr.heap[bd]? = some (.cells #[.int .i64 d] 3 (0, 0)) := (HK1.out.2 bd (blk_lt HD.out) hnd (by simp)).trans HD.out
      have hp1 : wr.heap[bp]? = some (.cells #[.pointer (some ⟨gl, 0, none⟩)] 98 (0, 0)) := (HK1.out.2 bp (blk_lt HP.out) hnp (by simp)).trans HP.out
      have cI := sound1_calls ih y A7 c7 d Lk gl bd bp b1 L1 w0 wr g7 l7 hT HB1.out HG1.out hge hd1 hp1 hIs
      have HA2 := Aside0.mk hA
      clear hA hIs hd1 hp1 g7 l7
      cases b1 with
      | true =>
        have hr := HA2.out
        simp only [if_true] at hr
        have HA3 := Aside0.mk hr
        clear hr
        go_wp2_with (go_at_fn 114; refine cI.mono ?_; rintro e w' ⟨rfl, hb, hg, hk⟩)
        go_roundg n
        case measure => omega
        case rel => exact ⟨kk + 1, L1, by omega, by go_num, HA3, ⟨hb⟩, ⟨hg⟩, ⟨KeepBut.trans HK1.out hk (.inl rfl)⟩⟩
      | false =>
        have hr := HA2.out
        simp only [Bool.false_eq_true, if_false, Option.some.injEq, Prod.mk.injEq] at hr
        obtain ⟨rfl, rfl⟩ := hr
        go_wp2_with (go_at_fn 114; refine cI.mono ?_; rintro e w' ⟨rfl, hb, hg, hk⟩)
        go_ret
        exact ⟨_, rfl, by simp, hb, hg, KeepBut.trans HK1.out hk (.inl rfl)⟩
set_option maxHeartbeats 4000000 in
theorem has31 {k : Nat} (ih : SoundAt k) (l : List S31) (A0 : Option Addr) (c0 : Nat) (d left : Int) (gl bd bp : Nat) (b : Bool) (L : Int) (w0 w : World) (hC : Kd.C k31 w0 A0 l.length l) (hT : Tabs w0) (hB : Below w0.heap.size w0 w) (hg : w.heap[gl]? = some (.cells #[.int .i64 left] 3 (0, 0))) (hge : w0.heap.size ≤ gl)
    (hd : w.heap[bd]? = some (.cells #[.int .i64 d] 3 (0, 0))) (hp : w.heap[bp]? = some (.cells #[.pointer (some ⟨gl, 0, none⟩)] 98 (0, 0))) (hnd : bd ≠ gl) (hnp : bp ≠ gl) (hbig : l.length < 4611686018427387904) (h : allSound (fun y L => soundF k y (wrap64 (d + 1)) L) l left = some (b, L)) :
    Calls Tryz.prog 113 #[.slice A0 l.length c0, .func (.func 114) #[] #[.pointer (some ⟨bd, 0, none⟩), .pointer (some ⟨bp, 0, none⟩)]] w fun e w' => e = .returned (.bool (!b)) ∧ Below w0.heap.size w0 w' ∧ w'.heap[gl]? = some (.cells #[.int .i64 L] 3 (0, 0)) ∧ KeepBut w w' gl none := by
  have cI := idx31 ih l A0 c0 d left gl bd bp b L w0 w hC hT hB hg hge hd hp hnd hnp hbig h
  clear hC hT hB hg hge hd hp hnd hnp hbig h
  go_enter Tryz.func113, Tryz.ntmps113
  go_wp2_with (go_at_call 154; refine cI.mono ?_; rintro e w' ⟨i, rfl, hi, hb, hg, hk⟩)
  go_ret
  exact ⟨by rw [← hi] <;> rfl, hb, hg, hk⟩
attribute [local go_sem high] eqA25
theorem bytes_nil {b : ByteArray} (h : b.toList = []) : b = ⟨#[]⟩ := by
  rw [Lib.toList_data] at h
  obtain ⟨⟨l⟩⟩ := b
  simp at h
  subst h
  rfl
theorem nz_false {vk vn vs vx : Int} {vt : ByteArray} (hz : ¬ (vk = 0 ∧ vn = 0 ∧ vs = 0 ∧ vt = (⟨#[]⟩ : ByteArray) ∧ vx = 0)) : (vk == 0 && ((vn == 0 && (vs == 0)) && (vt.toList == ([] : List UInt8) && (vx == 0)))) = false := by
  rw [Bool.eq_false_iff]
  intro q
  simp only [Bool.and_eq_true, beq_iff_eq] at q
  exact hz ⟨q.1, q.2.1.1, q.2.1.2, bytes_nil q.2.2.1, q.2.2.2⟩
set_option maxHeartbeats 8000000 in
set_option maxRecDepth 100000 in
theorem sound_step {k : Nat} (ih : SoundAt k) : SoundAt (k + 1) := by
  rintro ⟨op, ⟨vk, ⟨vn, vs⟩, vt, vx⟩, nm, l⟩ A c d left gl b L w0 w hC hc hT hB hg hge h
  simp only [soundF] at h
  have HC := Aside0.mk hC
  have Hc := Aside0.mk hc
  have HT := Aside0.mk hT
  have HB := Aside0.mk hB
  have HG := Aside0.mk hg
  have HE := Aside0.mk hge
  have HL := Aside0.mk (blk_lt hg)
  have HS := Aside0.mk hB.size
  have H := Aside0.mk h
  have hu31 := Tryz.underlying31
  have hu25 := Tryz.underlying25
  have hu23 := Tryz.underlying23
  clear hC hc hT hB hg hge h
  go_enter Tryz.func68, Tryz.ntmps68
  go_upto_region 2 with (first
    | ((with_reducible refine gate_dst (N := 3) rfl ?_); refine bev (cells31 ⟨op, ⟨vk, ⟨vn, vs⟩, vt, vx⟩, nm, l⟩ A c) 31 ?_; intro gx hgx w1 hbox hb1
       have HX := Aside0.mk hbox; replace HG := Aside0.mk (blk_below HG.out hb1); replace HB := Aside0.mk (HB.out.trans (hb1.mono HS.out)); have HK := Aside0.mk (KeepBut.of_below hb1 gl none)
       have hxg : gx ≠ gl := by have := HL.out; omega
       have hgx1 : gl ≠ gx := hxg.symm
       replace HL := Aside0.mk (blk_lt HG.out); replace HS := Aside0.mk HB.out.size; clear hgx hbox hb1)
    | ((with_reducible refine gate_dst (N := 4) rfl ?_); refine bev (#[.int .i64 d]) 3 ?_; intro gd hgd w2 hbox hb1
       have HD := Aside0.mk hbox; have hdx := nlt hgd (blk_lt HX.out); have hxd := hdx.symm; replace HX := Aside0.mk (blk_below HX.out hb1); replace HG := Aside0.mk (blk_below HG.out hb1); replace HB := Aside0.mk (HB.out.trans (hb1.mono HS.out)); replace HK := Aside0.mk (KeepBut.trans HK.out (KeepBut.of_below hb1 gl none) (.inl rfl))
       have hdg : gd ≠ gl := by have := HL.out; omega
       have hgd1 : gl ≠ gd := hdg.symm
       replace HL := Aside0.mk (blk_lt HG.out); replace HS := Aside0.mk HB.out.size; clear hgd hbox hb1)
    | ((with_reducible refine gate_dst (N := 5) rfl ?_); refine bev (#[.pointer (some ⟨gl, 0, none⟩)]) 98 ?_; intro gp hgp w3 hbox hb1
       have HP := Aside0.mk hbox; have hpx := nlt hgp (blk_lt HX.out); have hpd := nlt hgp (blk_lt HD.out); replace HD := Aside0.mk (blk_below HD.out hb1); replace HX := Aside0.mk (blk_below HX.out hb1); replace HG := Aside0.mk (blk_below HG.out hb1); replace HB := Aside0.mk (HB.out.trans (hb1.mono HS.out)); replace HK := Aside0.mk (KeepBut.trans HK.out (KeepBut.of_below hb1 gl none) (.inl rfl))
       have hpg : gp ≠ gl := by have := HL.out; omega
       have hgp1 : gl ≠ gp := hpg.symm
       have hcp := czc1 HP.out; obtain ⟨hcg, hfg⟩ := cz1 HG.out
       clear hgp hbox hb1))
  have HX2 := Aside0.mk (blk_far HX.out hxg (p := ⟨gl, 0, none⟩) (.int .i64 (wrap64 (left - 1))))
  have HD2 := Aside0.mk (blk_far HD.out hdg (p := ⟨gl, 0, none⟩) (.int .i64 (wrap64 (left - 1))))
  have HP2 := Aside0.mk (blk_far HP.out hpg (p := ⟨gl, 0, none⟩) (.int .i64 (wrap64 (left - 1))))
  have HG2 := Aside0.mk (blk_put (cs := #[.int .i64 left]) (cs' := #[.int .i64 (wrap64 (left - 1))]) HG.out 0 (.int .i64 (wrap64 (left - 1))) rfl)
  have HB2 := Aside0.mk (HB.out.setCell (p := ⟨gl, 0, none⟩) HE.out (.int .i64 (wrap64 (left - 1))))
  have HK2 := Aside0.mk (KeepBut.set_ HK.out 0 (.int .i64 (wrap64 (left - 1))))
  (try simp only [Act.put, List.setIfInBounds_toArray, List.set_cons_zero, List.set_cons_succ])
  obtain ⟨Lv, hLv⟩ : ∃ Lv, wrap64 (left - 1) = Lv := ⟨_, rfl⟩
  rw [hLv] at HX2 HD2 HP2 HG2 HB2 HK2 H ⊢
  obtain ⟨W, hW⟩ : ∃ W, w3.setCell ⟨gl, 0, none⟩ (.int .i64 Lv) = W := ⟨_, rfl⟩
  rw [hW] at HX2 HD2 HP2 HG2 HB2 HK2 ⊢
  clear hW hLv HX HD HP HG HB HK hcp hcg hfg HL HS
  refine start_ (n := 17) (S := fun w' => w'.cell? ⟨gd, 0, none⟩ = some (.int .i64 d) ∧ w'.cell? ⟨gp, 0, none⟩ = some (.pointer (some ⟨gl, 0, none⟩)) ∧ w'.cell? ⟨gl, 0, none⟩ = some (.int .i64 Lv) ∧ w'.cell? ⟨gx, 7, none⟩ = some (.slice A l.length c) ∧ w'.cell? ⟨gx, 0, none⟩ = some (.int .i64 op)) (ds := []) (bts 17 0) (by kernel_rfl) rfl rfl ⟨czc1 HD2.out, czc1 HP2.out, czc1 HG2.out, (blk_cell HX2.out 7).trans rfl, (blk_cell HX2.out 0).trans rfl⟩ (fun hHeld => ?_)
  replace HX2 := Aside0.mk (blk_drew HX2.out)
  replace HD2 := Aside0.mk (blk_drew HD2.out)
  replace HP2 := Aside0.mk (blk_drew HP2.out)
  replace HG2 := Aside0.mk (blk_drew HG2.out)
  replace HB2 := Aside0.mk (below_drew1 HB2.out)
  replace HK2 := Aside0.mk (keep_drew HK2.out)
  generalize W.drew = W1 at HX2 HD2 HP2 HG2 HB2 HK2 hHeld ⊢
  refine ta 0 (some 12) (bts 17 1) (by kernel_rfl) hHeld ?_
  by_cases hd : 64 < d
  · have f64 : decide (64 < d) = true := decide_eq_true hd
    have hA := H.out
    rw [if_pos hd] at hA
    simp only [Option.some.injEq, Prod.mk.injEq] at hA
    obtain ⟨rfl, rfl⟩ := hA
    refine pu 1 (some 13) (bts 17 3) (by kernel_rfl) ?_
    refine pu 2 (some 14) (bts 17 7) (by kernel_rfl) ?_
    refine pn 3 (some 15) (bts 17 15) (by kernel_rfl) ?_
    refine pn 4 (some 16) (bts 17 31) (by kernel_rfl) ?_
    refine pn 5 (some 17) (bts 17 63) (by kernel_rfl) ?_
    refine pn 6 (some 18) (bts 17 127) (by kernel_rfl) ?_
    refine pu 7 (some 19) (bts 17 255) (by kernel_rfl) ?_
    refine pu 8 (some 20) (bts 17 511) (by kernel_rfl) ?_
    refine pn 9 (some 21) (bts 17 1023) (by kernel_rfl) ?_
    refine pn 10 (some 22) (bts 17 2047) (by kernel_rfl) ?_
    refine pn 11 (some 23) (bts 17 4095) (by kernel_rfl) ?_
    refine pn 12 (some 24) (bts 17 8191) (by kernel_rfl) ?_
    refine pn 13 (some 25) (bts 17 16383) (by kernel_rfl) ?_
    refine pn 14 (some 26) (bts 17 32767) (by kernel_rfl) ?_
    refine pn 15 (some 27) (bts 17 65535) (by kernel_rfl) ?_
    refine pu 16 (some 28) (bts 17 131071) (by kernel_rfl) ?_
    refine done_ (by kernel_rfl) ?_
    go_wp2
    go_ret
    exact ⟨rfl, HB2.out, HG2.out, HK2.out⟩
  have f64 : decide (64 < d) = false := decide_eq_false hd
  replace H := Aside0.mk (show _ from by have hA := H.out; rw [if_neg hd] at hA; exact hA)
  refine pu 1 (some 13) (bts 17 3) (by kernel_rfl) ?_
  refine pu 2 (some 14) (bts 17 7) (by kernel_rfl) ?_
  refine ta 3 (some 15) (bts 17 15) (by kernel_rfl) hHeld ?_
  refine pu 4 (some 16) (bts 17 31) (by kernel_rfl) ?_
  refine ta 5 (some 17) (bts 17 63) (by kernel_rfl) hHeld ?_
  by_cases hn : Lv < 0
  · have fn : decide (Lv < 0) = true := decide_eq_true hn
    have hA := H.out
    rw [if_pos hn] at hA
    simp only [Option.some.injEq, Prod.mk.injEq] at hA
    obtain ⟨rfl, rfl⟩ := hA
    refine pu 6 (some 18) (bts 17 127) (by kernel_rfl) ?_
    refine pu 7 (some 19) (bts 17 255) (by kernel_rfl) ?_
    refine pu 8 (some 20) (bts 17 511) (by kernel_rfl) ?_
    refine pn 9 (some 21) (bts 17 1023) (by kernel_rfl) ?_
    refine pn 10 (some 22) (bts 17 2047) (by kernel_rfl) ?_
    refine pn 11 (some 23) (bts 17 4095) (by kernel_rfl) ?_
    refine pn 12 (some 24) (bts 17 8191) (by kernel_rfl) ?_
    refine pn 13 (some 25) (bts 17 16383) (by kernel_rfl) ?_
    refine pn 14 (some 26) (bts 17 32767) (by kernel_rfl) ?_
    refine pn 15 (some 27) (bts 17 65535) (by kernel_rfl) ?_
    refine pu 16 (some 28) (bts 17 131071) (by kernel_rfl) ?_
    refine done_ (by kernel_rfl) ?_
    go_wp2
    go_ret
    exact ⟨rfl, HB2.out, HG2.out, HK2.out⟩
  have fn : decide (Lv < 0) = false := decide_eq_false hn
  replace H := Aside0.mk (show _ from by have hA := H.out; rw [if_neg hn] at hA; exact hA)
  refine pu 6 (some 18) (bts 17 127) (by kernel_rfl) ?_
  refine pu 7 (some 19) (bts 17 255) (by kernel_rfl) ?_
  refine pu 8 (some 20) (bts 17 511) (by kernel_rfl) ?_
  refine pu 9 (some 21) (bts 17 1023) (by kernel_rfl) ?_
  refine ta 10 (some 22) (bts 17 2047) (by kernel_rfl) hHeld ?_
  refine pu 11 (some 23) (bts 17 4095) (by kernel_rfl) ?_
  refine pu 12 (some 24) (bts 17 8191) (by kernel_rfl) ?_
  refine ta 13 (some 25) (bts 17 16383) (by kernel_rfl) hHeld ?_
  have hA := H.out
  replace hA := Option.bind_eq_some_iff.mp hA
  obtain ⟨n, hkn, hA⟩ := hA
  have cN := expr_kids.calls k op n W1 hkn
  replace H := Aside0.mk hA
  clear hA
  refine one_ (i := 14) (N := some 26) (bts 17 32767) rfl rfl (by kernel_rfl) (by decide) (fun K hK => ?_)
  refine goes_ Tryz.func111 (by kernel_rfl) rfl #[.int .i64 op] (by rfl) rfl rfl lz ?_
  refine cN.mono ?_
  rintro e w' ⟨rfl, nd, rfl⟩
  refine ⟨_, rfl, ?_⟩
  replace HX2 := Aside0.mk (blk_drewN HX2.out nd)
  replace HD2 := Aside0.mk (blk_drewN HD2.out nd)
  replace HP2 := Aside0.mk (blk_drewN HP2.out nd)
  replace HG2 := Aside0.mk (blk_drewN HG2.out nd)
  replace HB2 := Aside0.mk (pw_below_drewN HB2.out nd)
  replace HK2 := Aside0.mk (keep_drewN HK2.out nd)
  refine hK.out _ _ ⟨hHeld.1, hHeld.2.1, hHeld.2.2.1, hHeld.2.2.2.1, hHeld.2.2.2.2⟩ (fun hHeld => ?_)
  clear hK K cN
  generalize W1.drewN nd = W2 at HX2 HD2 HP2 HG2 HB2 HK2 hHeld ⊢
  refine norm_ (a' := ?_) ?_ ?_
  rotate_left
  · show Act.put _ (some 26) _ = _
    simp only [Act.put, List.setIfInBounds_toArray, List.set_cons_zero, List.set_cons_succ, i64_w, i32_w]
    rfl
  clear hkn
  by_cases hln : (l.length : Int) = n
  rotate_left
  · have fe : ((l.length : Int) != n) = true := bne_iff_ne.mpr hln
    have hA := H.out
    rw [if_pos hln] at hA
    simp only [Option.some.injEq, Prod.mk.injEq] at hA
    obtain ⟨rfl, rfl⟩ := hA
    refine pu 15 (some 27) (bts 17 65535) (by kernel_rfl) ?_
    refine pu 16 (some 28) (bts 17 131071) (by kernel_rfl) ?_
    refine done_ (by kernel_rfl) ?_
    go_wp2
    go_ret
    exact ⟨rfl, HB2.out, HG2.out, HK2.out⟩
  have fe : ((l.length : Int) != n) = false := bne_eq_false_iff_eq.mpr hln
  replace H := Aside0.mk (show _ from by have hA := H.out; rw [if_neg (not_not_intro hln)] at hA; exact hA)
  refine pu 15 (some 27) (bts 17 65535) (by kernel_rfl) ?_
  refine pu 16 (some 28) (bts 17 131071) (by kernel_rfl) ?_
  refine done_ (by kernel_rfl) ?_
  clear fe hln hHeld f64 fn hd hn
  obtain ⟨x0, x1, x2, x3, x4, x5, x6, x7, z0, z1, z2, z3, z4, z5, z6, z7⟩ := cz8 HX2.out
  have y0 := czc1 HD2.out
  have y1 := czc1 HP2.out
  have hA := H.out
  replace hA := Option.bind_eq_some_iff.mp hA
  obtain ⟨bad, hbp, hA⟩ := hA
  replace H := Aside0.mk hA
  clear hA
  unfold badPart at hbp
  simp only at hbp
  have hnz : nm.toList.isEmpty = (nm.toList == []) := isEmpty_beq _
  cases e2 : (op == 2) <;> cases en : (nm.toList == ([] : List UInt8))
  ·
    have e3 : (nm.toList != ([] : List UInt8)) = true := by simp only [bne, en]; rfl
    rw [e2, e3] at hbp
    simp only [Bool.false_bne, if_true] at hbp
    obtain rfl := Option.some.inj hbp
    have hA := H.out
    simp only [if_true, Option.some.injEq, Prod.mk.injEq] at hA
    obtain ⟨rfl, rfl⟩ := hA
    rw [en] at hnz
    go_wp2
    go_ret
    exact ⟨rfl, HB2.out, HG2.out, HK2.out⟩
  ·
    have e3 : (nm.toList != ([] : List UInt8)) = false := by simp only [bne, en]; rfl
    rw [e2, e3] at hbp
    rw [en] at hnz
    have ho2 : ¬ op = 2 := beq_eq_false_iff_ne.mp e2
    simp only [bne_self_eq_false, Bool.false_eq_true, if_false, ho2, Option.bind_some] at hbp
    by_cases ho1 : op = 1
    · subst ho1
      simp only [ne_eq, not_true_eq_false, false_and, if_false] at hbp
      obtain ⟨okv, hv, hbp⟩ := Option.bind_eq_some_iff.mp hbp
      have f1 : ((1 : Int) == 2) = false := rfl
      cases okv with
      | false =>
        simp only [Bool.not_false, Bool.true_or, Option.some.injEq] at hbp
        subst hbp
        have hA := H.out
        simp only [if_true, Option.some.injEq, Prod.mk.injEq] at hA
        obtain ⟨rfl, rfl⟩ := hA
        go_wp2_with (first | (go_at_call 38; refine (value_Sound.calls k vk vn vs vt vx _ _ (tabs_of HT.out HB2.out) hv).mono ?_; rintro e w5 ⟨rfl, hb⟩; replace HX2 := Aside0.mk (blk_below HX2.out hb); replace HD2 := Aside0.mk (blk_below HD2.out hb); replace HP2 := Aside0.mk (blk_below HP2.out hb); replace HG2 := Aside0.mk (blk_below HG2.out hb); replace HB2 := Aside0.mk (HB2.out.trans (hb.mono HB2.out.size)); replace HK2 := Aside0.mk (KeepBut.trans HK2.out (KeepBut.of_below hb gl none) (.inl rfl)); obtain ⟨x0, x1, x2, x3, x4, x5, x6, x7, z0, z1, z2, z3, z4, z5, z6, z7⟩ := cz8 HX2.out; have y0 := czc1 HD2.out; have y1 := czc1 HP2.out; clear hb))
        go_ret
        exact ⟨rfl, HB2.out, HG2.out, HK2.out⟩
      | true =>
        simp only [Bool.not_true, Bool.false_or, Option.some.injEq] at hbp
        by_cases hvn : vn < 0
        · have fv : decide (vn < 0) = true := decide_eq_true hvn
          rw [fv] at hbp
          subst hbp
          have hA := H.out
          simp only [if_true, Option.some.injEq, Prod.mk.injEq] at hA
          obtain ⟨rfl, rfl⟩ := hA
          go_wp2_with (first | (go_at_call 38; refine (value_Sound.calls k vk vn vs vt vx _ _ (tabs_of HT.out HB2.out) hv).mono ?_; rintro e w5 ⟨rfl, hb⟩; replace HX2 := Aside0.mk (blk_below HX2.out hb); replace HD2 := Aside0.mk (blk_below HD2.out hb); replace HP2 := Aside0.mk (blk_below HP2.out hb); replace HG2 := Aside0.mk (blk_below HG2.out hb); replace HB2 := Aside0.mk (HB2.out.trans (hb.mono HB2.out.size)); replace HK2 := Aside0.mk (KeepBut.trans HK2.out (KeepBut.of_below hb gl none) (.inl rfl)); obtain ⟨x0, x1, x2, x3, x4, x5, x6, x7, z0, z1, z2, z3, z4, z5, z6, z7⟩ := cz8 HX2.out; have y0 := czc1 HD2.out; have y1 := czc1 HP2.out; clear hb))
          go_ret
          exact ⟨rfl, HB2.out, HG2.out, HK2.out⟩
        · have fv : decide (vn < 0) = false := decide_eq_false hvn
          rw [fv] at hbp
          subst hbp
          have hA := H.out
          simp only [Bool.false_eq_true, if_false] at hA
          have hbig : l.length < 4611686018427387904 := by
            split at hA
            · assumption
            · cases hA
          rw [if_pos hbig] at hA
          have hall := hA
          clear hA
          go_wp2_with (first | (go_at_call 38; refine (value_Sound.calls k vk vn vs vt vx _ _ (tabs_of HT.out HB2.out) hv).mono ?_; rintro e w5 ⟨rfl, hb⟩; replace HX2 := Aside0.mk (blk_below HX2.out hb); replace HD2 := Aside0.mk (blk_below HD2.out hb); replace HP2 := Aside0.mk (blk_below HP2.out hb); replace HG2 := Aside0.mk (blk_below HG2.out hb); replace HB2 := Aside0.mk (HB2.out.trans (hb.mono HB2.out.size)); replace HK2 := Aside0.mk (KeepBut.trans HK2.out (KeepBut.of_below hb gl none) (.inl rfl)); obtain ⟨x0, x1, x2, x3, x4, x5, x6, x7, z0, z1, z2, z3, z4, z5, z6, z7⟩ := cz8 HX2.out; have y0 := czc1 HD2.out; have y1 := czc1 HP2.out; clear hb) | (go_at_call 113; refine (has31 ih l A c d Lv gl gd gp b L w0 _ HC.out HT.out HB2.out HG2.out HE.out HD2.out HP2.out hdg hpg hbig hall).mono ?_; rintro e w6 ⟨rfl, hb, hg, hk⟩))
          go_ret
          exact ⟨rfl, hb, hg, KeepBut.trans HK2.out hk (.inl rfl)⟩
    · have fo : (op == 1) = false := beq_eq_false_iff_ne.mpr ho1
      have fo' : (op != 1) = true := bne_iff_ne.mpr ho1
      have fo2 : (op != 2) = true := bne_iff_ne.mpr ho2
      by_cases hz : vk = 0 ∧ vn = 0 ∧ vs = 0 ∧ vt = (⟨#[]⟩ : ByteArray) ∧ vx = 0
      · rw [if_neg (fun q => q.2 hz)] at hbp
        obtain ⟨rfl, rfl, rfl, rfl, rfl⟩ := hz
        obtain ⟨okv, hv, hbp⟩ := Option.bind_eq_some_iff.mp hbp
        cases okv with
        | false =>
          simp only [Bool.not_false, Bool.true_or, Option.some.injEq] at hbp
          subst hbp
          have hA := H.out
          simp only [if_true, Option.some.injEq, Prod.mk.injEq] at hA
          obtain ⟨rfl, rfl⟩ := hA
          go_wp2_with (first | (go_at_call 38; refine (value_Sound.calls k 0 0 0 (⟨#[]⟩ : ByteArray) 0 _ _ (tabs_of HT.out HB2.out) hv).mono ?_; rintro e w5 ⟨rfl, hb⟩; replace HX2 := Aside0.mk (blk_below HX2.out hb); replace HD2 := Aside0.mk (blk_below HD2.out hb); replace HP2 := Aside0.mk (blk_below HP2.out hb); replace HG2 := Aside0.mk (blk_below HG2.out hb); replace HB2 := Aside0.mk (HB2.out.trans (hb.mono HB2.out.size)); replace HK2 := Aside0.mk (KeepBut.trans HK2.out (KeepBut.of_below hb gl none) (.inl rfl)); obtain ⟨x0, x1, x2, x3, x4, x5, x6, x7, z0, z1, z2, z3, z4, z5, z6, z7⟩ := cz8 HX2.out; have y0 := czc1 HD2.out; have y1 := czc1 HP2.out; clear hb))
          go_ret
          exact ⟨rfl, HB2.out, HG2.out, HK2.out⟩
        | true =>
          simp only [Bool.not_true, Bool.false_or, Option.some.injEq] at hbp
          replace hbp : false = bad := (show decide ((0 : Int) < 0) = false from rfl).symm.trans hbp
          subst hbp
          have hA := H.out
          simp only [Bool.false_eq_true, if_false] at hA
          have hbig : l.length < 4611686018427387904 := by
            split at hA
            · assumption
            · cases hA
          rw [if_pos hbig] at hA
          have hall := hA
          clear hA
          go_wp2_with (first | (go_at_call 38; refine (value_Sound.calls k 0 0 0 (⟨#[]⟩ : ByteArray) 0 _ _ (tabs_of HT.out HB2.out) hv).mono ?_; rintro e w5 ⟨rfl, hb⟩; replace HX2 := Aside0.mk (blk_below HX2.out hb); replace HD2 := Aside0.mk (blk_below HD2.out hb); replace HP2 := Aside0.mk (blk_below HP2.out hb); replace HG2 := Aside0.mk (blk_below HG2.out hb); replace HB2 := Aside0.mk (HB2.out.trans (hb.mono HB2.out.size)); replace HK2 := Aside0.mk (KeepBut.trans HK2.out (KeepBut.of_below hb gl none) (.inl rfl)); obtain ⟨x0, x1, x2, x3, x4, x5, x6, x7, z0, z1, z2, z3, z4, z5, z6, z7⟩ := cz8 HX2.out; have y0 := czc1 HD2.out; have y1 := czc1 HP2.out; clear hb) | (go_at_call 113; refine (has31 ih l A c d Lv gl gd gp b L w0 _ HC.out HT.out HB2.out HG2.out HE.out HD2.out HP2.out hdg hpg hbig hall).mono ?_; rintro e w6 ⟨rfl, hb, hg, hk⟩))
          go_ret
          exact ⟨rfl, hb, hg, KeepBut.trans HK2.out hk (.inl rfl)⟩
      · rw [if_pos ⟨ho1, hz⟩] at hbp
        obtain rfl := Option.some.inj hbp
        have hA := H.out
        simp only [if_true, Option.some.injEq, Prod.mk.injEq] at hA
        obtain ⟨rfl, rfl⟩ := hA
        have hb5 : (vk == 0 && ((vn == 0 && (vs == 0)) && (vt.toList == ([] : List UInt8) && (vx == 0)))) = false := nz_false hz
        have hb6 : (vk == 0 && ((vn == 0 && (vs == 0)) && (vt.toList.isEmpty && (vx == 0)))) = false := by rw [isEmpty_beq]; exact hb5
        go_wp2
        go_ret
        exact ⟨rfl, HB2.out, HG2.out, HK2.out⟩
  ·
    have e3 : (nm.toList != ([] : List UInt8)) = true := by simp only [bne, en]; rfl
    rw [e2, e3] at hbp
    rw [en] at hnz
    have ho2 : op = 2 := beq_iff_eq.mp e2
    subst ho2
    simp only [bne_self_eq_false, Bool.false_eq_true, if_false, if_true] at hbp
    obtain ⟨b1, hw0, hbp⟩ := Option.bind_eq_some_iff.mp hbp
    obtain ⟨okw, hw, e1⟩ := Option.bind_eq_some_iff.mp hw0
    have e1 := Option.some.inj e1
    subst e1
    clear hw0
    cases okw with
    | false =>
      simp only [Bool.not_false, if_true] at hbp
      obtain rfl := Option.some.inj hbp
      have hA := H.out
      simp only [if_true, Option.some.injEq, Prod.mk.injEq] at hA
      obtain ⟨rfl, rfl⟩ := hA
      go_wp2_with (first | (go_at_call 112; refine (lex_Word.calls k nm _ _ hw).mono ?_; rintro e w5 ⟨rfl, hb⟩; replace HX2 := Aside0.mk (blk_below HX2.out hb); replace HD2 := Aside0.mk (blk_below HD2.out hb); replace HP2 := Aside0.mk (blk_below HP2.out hb); replace HG2 := Aside0.mk (blk_below HG2.out hb); replace HB2 := Aside0.mk (HB2.out.trans (hb.mono HB2.out.size)); replace HK2 := Aside0.mk (KeepBut.trans HK2.out (KeepBut.of_below hb gl none) (.inl rfl)); obtain ⟨x0, x1, x2, x3, x4, x5, x6, x7, z0, z1, z2, z3, z4, z5, z6, z7⟩ := cz8 HX2.out; have y0 := czc1 HD2.out; have y1 := czc1 HP2.out; clear hb))
      go_ret
      exact ⟨rfl, HB2.out, HG2.out, HK2.out⟩
    | true =>
      simp only [Bool.not_true, Bool.false_eq_true, if_false] at hbp
      by_cases hz : vk = 0 ∧ vn = 0 ∧ vs = 0 ∧ vt = (⟨#[]⟩ : ByteArray) ∧ vx = 0
      · rw [if_neg (fun q => q.2 hz)] at hbp
        obtain ⟨rfl, rfl, rfl, rfl, rfl⟩ := hz
        obtain ⟨okv, hv, hbp⟩ := Option.bind_eq_some_iff.mp hbp
        cases okv with
        | false =>
          simp only [Bool.not_false, Bool.true_or, Option.some.injEq] at hbp
          subst hbp
          have hA := H.out
          simp only [if_true, Option.some.injEq, Prod.mk.injEq] at hA
          obtain ⟨rfl, rfl⟩ := hA
          go_wp2_with (first | (go_at_call 112; refine (lex_Word.calls k nm _ _ hw).mono ?_; rintro e w5 ⟨rfl, hb⟩; replace HX2 := Aside0.mk (blk_below HX2.out hb); replace HD2 := Aside0.mk (blk_below HD2.out hb); replace HP2 := Aside0.mk (blk_below HP2.out hb); replace HG2 := Aside0.mk (blk_below HG2.out hb); replace HB2 := Aside0.mk (HB2.out.trans (hb.mono HB2.out.size)); replace HK2 := Aside0.mk (KeepBut.trans HK2.out (KeepBut.of_below hb gl none) (.inl rfl)); obtain ⟨x0, x1, x2, x3, x4, x5, x6, x7, z0, z1, z2, z3, z4, z5, z6, z7⟩ := cz8 HX2.out; have y0 := czc1 HD2.out; have y1 := czc1 HP2.out; clear hb) | (go_at_call 38; refine (value_Sound.calls k 0 0 0 (⟨#[]⟩ : ByteArray) 0 _ _ (tabs_of HT.out HB2.out) hv).mono ?_; rintro e w5 ⟨rfl, hb⟩; replace HX2 := Aside0.mk (blk_below HX2.out hb); replace HD2 := Aside0.mk (blk_below HD2.out hb); replace HP2 := Aside0.mk (blk_below HP2.out hb); replace HG2 := Aside0.mk (blk_below HG2.out hb); replace HB2 := Aside0.mk (HB2.out.trans (hb.mono HB2.out.size)); replace HK2 := Aside0.mk (KeepBut.trans HK2.out (KeepBut.of_below hb gl none) (.inl rfl)); obtain ⟨x0, x1, x2, x3, x4, x5, x6, x7, z0, z1, z2, z3, z4, z5, z6, z7⟩ := cz8 HX2.out; have y0 := czc1 HD2.out; have y1 := czc1 HP2.out; clear hb))
          go_ret
          exact ⟨rfl, HB2.out, HG2.out, HK2.out⟩
        | true =>
          simp only [Bool.not_true, Bool.false_or, Option.some.injEq] at hbp
          replace hbp : false = bad := (show decide ((0 : Int) < 0) = false from rfl).symm.trans hbp
          subst hbp
          have hA := H.out
          simp only [Bool.false_eq_true, if_false] at hA
          have hbig : l.length < 4611686018427387904 := by
            split at hA
            · assumption
            · cases hA
          rw [if_pos hbig] at hA
          have hall := hA
          clear hA
          go_wp2_with (first | (go_at_call 112; refine (lex_Word.calls k nm _ _ hw).mono ?_; rintro e w5 ⟨rfl, hb⟩; replace HX2 := Aside0.mk (blk_below HX2.out hb); replace HD2 := Aside0.mk (blk_below HD2.out hb); replace HP2 := Aside0.mk (blk_below HP2.out hb); replace HG2 := Aside0.mk (blk_below HG2.out hb); replace HB2 := Aside0.mk (HB2.out.trans (hb.mono HB2.out.size)); replace HK2 := Aside0.mk (KeepBut.trans HK2.out (KeepBut.of_below hb gl none) (.inl rfl)); obtain ⟨x0, x1, x2, x3, x4, x5, x6, x7, z0, z1, z2, z3, z4, z5, z6, z7⟩ := cz8 HX2.out; have y0 := czc1 HD2.out; have y1 := czc1 HP2.out; clear hb) | (go_at_call 38; refine (value_Sound.calls k 0 0 0 (⟨#[]⟩ : ByteArray) 0 _ _ (tabs_of HT.out HB2.out) hv).mono ?_; rintro e w5 ⟨rfl, hb⟩; replace HX2 := Aside0.mk (blk_below HX2.out hb); replace HD2 := Aside0.mk (blk_below HD2.out hb); replace HP2 := Aside0.mk (blk_below HP2.out hb); replace HG2 := Aside0.mk (blk_below HG2.out hb); replace HB2 := Aside0.mk (HB2.out.trans (hb.mono HB2.out.size)); replace HK2 := Aside0.mk (KeepBut.trans HK2.out (KeepBut.of_below hb gl none) (.inl rfl)); obtain ⟨x0, x1, x2, x3, x4, x5, x6, x7, z0, z1, z2, z3, z4, z5, z6, z7⟩ := cz8 HX2.out; have y0 := czc1 HD2.out; have y1 := czc1 HP2.out; clear hb) | (go_at_call 113; refine (has31 ih l A c d Lv gl gd gp b L w0 _ HC.out HT.out HB2.out HG2.out HE.out HD2.out HP2.out hdg hpg hbig hall).mono ?_; rintro e w6 ⟨rfl, hb, hg, hk⟩))
          go_ret
          exact ⟨rfl, hb, hg, KeepBut.trans HK2.out hk (.inl rfl)⟩
      · rw [if_pos ⟨by decide, hz⟩] at hbp
        obtain rfl := Option.some.inj hbp
        have hA := H.out
        simp only [if_true, Option.some.injEq, Prod.mk.injEq] at hA
        obtain ⟨rfl, rfl⟩ := hA
        have hb5 : (vk == 0 && ((vn == 0 && (vs == 0)) && (vt.toList == ([] : List UInt8) && (vx == 0)))) = false := nz_false hz
        have hb6 : (vk == 0 && ((vn == 0 && (vs == 0)) && (vt.toList.isEmpty && (vx == 0)))) = false := by rw [isEmpty_beq]; exact hb5
        go_wp2_with (first | (go_at_call 112; refine (lex_Word.calls k nm _ _ hw).mono ?_; rintro e w5 ⟨rfl, hb⟩; replace HX2 := Aside0.mk (blk_below HX2.out hb); replace HD2 := Aside0.mk (blk_below HD2.out hb); replace HP2 := Aside0.mk (blk_below HP2.out hb); replace HG2 := Aside0.mk (blk_below HG2.out hb); replace HB2 := Aside0.mk (HB2.out.trans (hb.mono HB2.out.size)); replace HK2 := Aside0.mk (KeepBut.trans HK2.out (KeepBut.of_below hb gl none) (.inl rfl)); obtain ⟨x0, x1, x2, x3, x4, x5, x6, x7, z0, z1, z2, z3, z4, z5, z6, z7⟩ := cz8 HX2.out; have y0 := czc1 HD2.out; have y1 := czc1 HP2.out; clear hb))
        go_ret
        exact ⟨rfl, HB2.out, HG2.out, HK2.out⟩
  ·
    have e3 : (nm.toList != ([] : List UInt8)) = false := by simp only [bne, en]; rfl
    rw [e2, e3] at hbp
    simp only [Bool.bne_false, if_true] at hbp
    obtain rfl := Option.some.inj hbp
    have hA := H.out
    simp only [if_true, Option.some.injEq, Prod.mk.injEq] at hA
    obtain ⟨rfl, rfl⟩ := hA
    rw [en] at hnz
    go_wp2
    go_ret
    exact ⟨rfl, HB2.out, HG2.out, HK2.out⟩
theorem sound_zero : SoundAt 0 := fun x A c d left gl b L w0 w _ _ _ _ _ _ h => by cases h
theorem sound_all : ∀ k, SoundAt k
  | 0 => sound_zero
  | k + 1 => sound_step (sound_all k)
set_option maxHeartbeats 4000000 in
set_option maxRecDepth 100000 in
theorem expr_Sound.calls (k : Nat) (a0_0 a0_1 a0_2 a0_3 : Int) (a0_4 : ByteArray) (a0_5 : Int) (a0_6 : ByteArray) (A0_7 : Option Addr) (c0_7 : Nat) (l0_7 : List S31) (r : Bool) (w : World) (hr0_7 : Kd.C k31 w A0_7 l0_7.length l0_7) (hc0_7 : l0_7.length ≤ c0_7) (hT : Tabs w)
    (h : expr_Sound.f k a0_0 a0_1 a0_2 a0_3 a0_4 a0_5 a0_6 l0_7 = some r) :
    Calls Tryz.prog 35 #[.agg #[.int .i64 a0_0, .int .i64 a0_1, .int .i64 a0_2, .int .i64 a0_3, .string a0_4, .int .i64 a0_5, .string a0_6, .slice A0_7 l0_7.length c0_7]] w fun e w' => e = .returned (.bool r) ∧ Below w.heap.size w w' := by
  obtain ⟨⟨b, L⟩, hs, h⟩ := Option.bind_eq_some_iff.mp h
  obtain rfl := Option.some.inj h
  have hu31 := Tryz.underlying31
  go_enter Tryz.func35, Tryz.ntmps35
  go_wp2_with (first
    | ((with_reducible refine gate_dst (N := 1) rfl ?_); refine bev (cells31 ⟨a0_0, ⟨a0_1, ⟨a0_2, a0_3⟩, a0_4, a0_5⟩, a0_6, l0_7⟩ A0_7 c0_7) 31 ?_; intro gx hgx w1 hbox hb1
       have HX := Aside0.mk hbox; have HB1 := Aside0.mk hb1; clear hgx hbox hb1)
    | ((with_reducible refine gate_dst (N := 3) rfl ?_); refine bev (#[.int .i64 0]) 3 ?_; intro gl hgl w2 hbox hb2
       have HG := Aside0.mk hbox; have hlx := nlt hgl (blk_lt HX.out); have HGE := Aside0.mk (show w.heap.size ≤ gl from by rw [hgl]; exact HB1.out.size); replace HX := Aside0.mk (blk_below HX.out hb2); have HB2 := Aside0.mk (HB1.out.trans (hb2.mono HB1.out.size))
       obtain ⟨q0, q1⟩ := cz1 HG.out; obtain ⟨x0, x1, x2, x3, x4, x5, x6, x7, _⟩ := cz8 HX.out; have hxl := hlx.symm; clear hgl hbox hb2)
    | (go_at_call 68; refine (sound_all k ⟨a0_0, ⟨a0_1, ⟨a0_2, a0_3⟩, a0_4, a0_5⟩, a0_6, l0_7⟩ A0_7 c0_7 1 4096 gl b L w _ hr0_7 hc0_7 hT (HB2.out.setCell (p := ⟨gl, 0, none⟩) HGE.out (.int .i64 4096)) (blk_put (cs := #[.int .i64 0]) (cs' := #[.int .i64 4096]) HG.out 0 (.int .i64 4096) rfl) HGE.out hs).mono ?_; rintro e w3 ⟨rfl, hb, hg, hk⟩))
  go_ret
  exact ⟨rfl, hb⟩
end Go.Proofs.YtgkemhgihbfmmaaGreatDoor.PA
end
section
namespace Go.Proofs.YtgkemhgihbfmmaaGreatDoor.PA
open Go.RowKit Go.Proofs.YtgkemhgihbfmmaaGreatDoorW.PrintWords Go.Proofs.YtgkemhgihbfmmaaGreatDoorW.PrintLast Go.Proofs.YtgkemhgihbfmmaaGreatDoorW.PrintMore
attribute [local go_sem] max2_int min2_int max_two min_two max_three min_three max_four min_four isSome_set str_gtr
set_option linter.unusedVariables false
set_option linter.unusedSimpArgs false
def expr_Parse.j0 : Nat → Bool → List (S136) → Int → Int → Int → Int → Int → Int → Int → Int → Int → ByteArray → Int → ByteArray → List (S31) → Option (Int × Int × Int × Int × ByteArray × Int × ByteArray × (List (S31)) × Int × Int)
 | 0, _, _, _, _, _, _, _, _, _, _, _, _, _, _, _ => none
 | k + 1, x22, x802000, x802001, x802002, x802003, x802004, x802005, x818000, x818001, x818002, x818003, x818004, x818005, x818006, x818007 => if x22 = true then (none) else ((expr_Parser_Error.f x802000 x802001 x802002 x802003 x802004 x802005).bind fun bt824 => (if bt824.2.1 = 0 then ((expr_Sound.f k x818000 x818001 x818002 x818003 x818004 x818005 x818006 x818007).bind fun t831 => (if t831 = true then (some (x818000, x818001, x818002, x818003, x818004, x818005, x818006, x818007, 0, 0)) else (none))) else (none)))
def expr_Parse.f (k : Nat) (a0 : ByteArray) : Option (Int × Int × Int × Int × ByteArray × Int × ByteArray × (List (S31)) × Int × Int) := (expr_NewParser.f k a0).bind fun bt795 => ((expr_Parser_Expr.f k bt795.1 bt795.2.1 bt795.2.2.1 bt795.2.2.2.1 bt795.2.2.2.2.1 bt795.2.2.2.2.2 1).bind fun bt802 => (if bt802.2.2.2.2.2.2.2.2.2.2.2.1 = 0 then ((expr_Parser_Ended.f bt795.1 bt802.2.2.2.2.2.2.2.2.1 bt802.2.2.2.2.2.2.2.2.2.1 bt802.2.2.2.2.2.2.2.2.2.2.1 bt802.2.2.2.2.2.2.2.2.2.2.2.1 bt802.2.2.2.2.2.2.2.2.2.2.2.2).bind fun bt818 => (expr_Parse.j0 k (!bt818.1) bt795.1 bt818.2.1 bt818.2.2.1 bt818.2.2.2.1 bt818.2.2.2.2.1 bt818.2.2.2.2.2 bt802.1 bt802.2.1 bt802.2.2.1 bt802.2.2.2.1 bt802.2.2.2.2.1 bt802.2.2.2.2.2.1 bt802.2.2.2.2.2.2.1 bt802.2.2.2.2.2.2.2.1)) else (expr_Parse.j0 k false bt795.1 bt802.2.2.2.2.2.2.2.2.1 bt802.2.2.2.2.2.2.2.2.2.1 bt802.2.2.2.2.2.2.2.2.2.2.1 bt802.2.2.2.2.2.2.2.2.2.2.2.1 bt802.2.2.2.2.2.2.2.2.2.2.2.2 bt802.1 bt802.2.1 bt802.2.2.1 bt802.2.2.2.1 bt802.2.2.2.2.1 bt802.2.2.2.2.2.1 bt802.2.2.2.2.2.2.1 bt802.2.2.2.2.2.2.2.1)))
theorem expr_Parse.mono_l : ∀ k, (∀ y0 y1 y2 y3 y4 y5 y6 y7 y8 y9 y10 y11 y12 y13 y14, LeO (expr_Parse.j0 k y0 y1 y2 y3 y4 y5 y6 y7 y8 y9 y10 y11 y12 y13 y14) (expr_Parse.j0 (k + 1) y0 y1 y2 y3 y4 y5 y6 y7 y8 y9 y10 y11 y12 y13 y14))
 | 0 => fun _ _ _ _ _ _ _ _ _ _ _ _ _ _ _ r h => by simp [expr_Parse.j0] at h
 | k + 1 => by
  have ih0 := expr_Parse.mono_l k
  ·intro y0 y1 y2 y3 y4 y5 y6 y7 y8 y9 y10 y11 y12 y13 y14
   unfold expr_Parse.j0
   have q0 := @expr_NewParser.mono; have q1 := @expr_Parser_Expr.mono; have q2 := @expr_Sound.mono; exact lmo
theorem expr_Parse.mono : ∀ a0 k, LeO (expr_Parse.f k a0) (expr_Parse.f (k + 1) a0) := by
 intro a0 k
 have ih0 := expr_Parse.mono_l k
 unfold expr_Parse.f
 have q0 := @expr_NewParser.mono; have q1 := @expr_Parser_Expr.mono; have q2 := @expr_Sound.mono; exact lmo
set_option maxHeartbeats 8000000 in
set_option maxRecDepth 100000 in
theorem expr_Parse.calls (k : Nat) (a0 : ByteArray) (r1 : Int) (r2 : Int) (r3 : Int) (r4 : Int) (r5 : ByteArray) (r6 : Int) (r7 : ByteArray) (r8 : List (S31)) (r9 : Int) (r10 : Int) (wO : World) (hT : Tabs wO) (h : expr_Parse.f k a0 = some (r1, r2, r3, r4, r5, r6, r7, r8, r9, r10)) :
  Calls Tryz.prog 12 #[.string a0] wO fun e w' => ∃ v7_ : Value, e = .returned (.tuple #[.agg #[.int .i64 r1, .int .i64 r2, .int .i64 r3, .int .i64 r4, .string r5, .int .i64 r6, .string r7, v7_], .int .i64 r9, .int .i64 r10]) ∧ Kd.V k31 31 w' wO.heap.size (fun k_ => (wO.heap.size ≤ k_)) v7_ r8 ∧ Below wO.heap.size wO w' := by
 have hu31 := Tryz.underlying31
 have HT := Aside0.mk hT
 clear hT
 have HB := Aside0.mk (Below.refl wO.heap.size wO)
 have H : ((expr_NewParser.f k a0).bind fun bt795 => ((expr_Parser_Expr.f k bt795.1 bt795.2.1 bt795.2.2.1 bt795.2.2.2.1 bt795.2.2.2.2.1 bt795.2.2.2.2.2 1).bind fun bt802 => (if bt802.2.2.2.2.2.2.2.2.2.2.2.1 = 0 then ((expr_Parser_Ended.f bt795.1 bt802.2.2.2.2.2.2.2.2.1 bt802.2.2.2.2.2.2.2.2.2.1 bt802.2.2.2.2.2.2.2.2.2.2.1 bt802.2.2.2.2.2.2.2.2.2.2.2.1 bt802.2.2.2.2.2.2.2.2.2.2.2.2).bind fun bt818 => (expr_Parse.j0 k (!bt818.1) bt795.1 bt818.2.1 bt818.2.2.1 bt818.2.2.2.1 bt818.2.2.2.2.1 bt818.2.2.2.2.2 bt802.1 bt802.2.1 bt802.2.2.1 bt802.2.2.2.1 bt802.2.2.2.2.1 bt802.2.2.2.2.2.1 bt802.2.2.2.2.2.2.1 bt802.2.2.2.2.2.2.2.1)) else (expr_Parse.j0 k false bt795.1 bt802.2.2.2.2.2.2.2.2.1 bt802.2.2.2.2.2.2.2.2.2.1 bt802.2.2.2.2.2.2.2.2.2.2.1 bt802.2.2.2.2.2.2.2.2.2.2.2.1 bt802.2.2.2.2.2.2.2.2.2.2.2.2 bt802.1 bt802.2.1 bt802.2.2.1 bt802.2.2.2.1 bt802.2.2.2.2.1 bt802.2.2.2.2.2.1 bt802.2.2.2.2.2.2.1 bt802.2.2.2.2.2.2.2.1)))) = some (r1, r2, r3, r4, r5, r6, r7, r8, r9, r10) := h
 clear h
 replace H := Option.bind_eq_some_iff.mp H
 obtain ⟨⟨t795, t796, t797, t798, t799, t800⟩, A20, H⟩ := H
 replace H : ((expr_Parser_Expr.f k t795 t796 t797 t798 t799 t800 1).bind fun bt802 => (if bt802.2.2.2.2.2.2.2.2.2.2.2.1 = 0 then ((expr_Parser_Ended.f t795 bt802.2.2.2.2.2.2.2.2.1 bt802.2.2.2.2.2.2.2.2.2.1 bt802.2.2.2.2.2.2.2.2.2.2.1 bt802.2.2.2.2.2.2.2.2.2.2.2.1 bt802.2.2.2.2.2.2.2.2.2.2.2.2).bind fun bt818 => (expr_Parse.j0 k (!bt818.1) t795 bt818.2.1 bt818.2.2.1 bt818.2.2.2.1 bt818.2.2.2.2.1 bt818.2.2.2.2.2 bt802.1 bt802.2.1 bt802.2.2.1 bt802.2.2.2.1 bt802.2.2.2.2.1 bt802.2.2.2.2.2.1 bt802.2.2.2.2.2.2.1 bt802.2.2.2.2.2.2.2.1)) else (expr_Parse.j0 k false t795 bt802.2.2.2.2.2.2.2.2.1 bt802.2.2.2.2.2.2.2.2.2.1 bt802.2.2.2.2.2.2.2.2.2.2.1 bt802.2.2.2.2.2.2.2.2.2.2.2.1 bt802.2.2.2.2.2.2.2.2.2.2.2.2 bt802.1 bt802.2.1 bt802.2.2.1 bt802.2.2.2.1 bt802.2.2.2.2.1 bt802.2.2.2.2.2.1 bt802.2.2.2.2.2.2.1 bt802.2.2.2.2.2.2.2.1))) = some (r1, r2, r3, r4, r5, r6, r7, r8, r9, r10) := H
 have A2 := Aside0.mk A20
 clear A20
 replace H := Option.bind_eq_some_iff.mp H
 obtain ⟨⟨t802, t803, t804, t805, t806, t807, t808, t809, t812, t813, t814, t815, t816⟩, A30, H⟩ := H
 replace H : (if t815 = 0 then ((expr_Parser_Ended.f t795 t812 t813 t814 t815 t816).bind fun bt818 => (expr_Parse.j0 k (!bt818.1) t795 bt818.2.1 bt818.2.2.1 bt818.2.2.2.1 bt818.2.2.2.2.1 bt818.2.2.2.2.2 t802 t803 t804 t805 t806 t807 t808 t809)) else (expr_Parse.j0 k false t795 t812 t813 t814 t815 t816 t802 t803 t804 t805 t806 t807 t808 t809)) = some (r1, r2, r3, r4, r5, r6, r7, r8, r9, r10) := H
 have A3 := Aside0.mk A30
 clear A30
 have HC4 := Aside0.mk H
 clear H
 go_enter Tryz.func12, Tryz.ntmps12
 go_upto_region 3 with (first | ((with_reducible refine gate_dst (N := 2) rfl ?_); refine bev (#[.int .i64 0, .int .i64 0, .int .i64 0, .int .i64 0, .string (⟨#[]⟩ : ByteArray), .int .i64 0, .string (⟨#[]⟩ : ByteArray), .slice none 0 0]) 31 ?_; intro gb794 hg w5 hbox hb; have BK794 := Aside0.mk (hbox); have GW794 := Aside0.mk ((by rw [hg]; exact (below_size (bz HB.out)) : wO.heap.size ≤ gb794)); have GE794 := GW794; replace HB := sb HB hb; clear hb hbox hg) | ((with_reducible refine gate_callee (f := 30) rfl ?_); refine gl_ (some 10) Tryz.func30 (by kernel_rfl) #[.string a0] rfl ?_; (with_reducible refine (expr_NewParser.calls k a0 t795 t796 t797 t798 t799 t800 _ ?side2 A2.out).mono ?_); (case side2 => exact tabs_of HT.out (bz HB.out)); rintro e w6 ⟨g801, w, rfl, hi, hb1, hb2⟩; refine ⟨_, rfl, ?_⟩; have HBO := Aside0.mk (below_step (bz HB.out) hb1); replace HB := Aside0.mk hb2; replace HT := Aside0.mk (tabs_of HT.out HBO.out); have HI801 := Aside0.mk hi; have HBT := Aside0.mk (below_then hb1 hb1.size hb2); have NB801_794 := Aside0.mk (IsS63.ne_blk hi (blk_below (bk BK794.out) HBT.out) (by decide)); have NB794_801 := Aside0.mk (Ne.symm NB801_794.out); replace BK794 := Aside0.mk (blk_below (bk BK794.out) HBT.out); clear HBT hb1 hb2 hi) | ((with_reducible refine gate_callee (f := 31) rfl ?_); refine gl_ (some 12) Tryz.func31 (by kernel_rfl) #[.pointer (some ⟨g801, 0, none⟩), .int .i64 1] rfl ?_; (with_reducible refine (expr_Parser_Expr.calls k g801 t795 t796 t797 t798 t799 t800 1 t802 t803 t804 t805 t806 t807 t808 t809 t812 t813 t814 t815 t816 w _ ?side1 ?side2 A3.out).mono ?_); (case side1 => exact hz HI801.out); (case side2 => exact bz HB.out); rintro e w7 ⟨v810, rfl, ho0, hi, hb, hk⟩; refine ⟨_, rfl, ?_⟩; have HO811 := Aside0.mk (Kd.V_lower (Kd.V_mono (ok' := fun k_ => (w.heap.size ≤ k_) ∧ k_ ≠ gb794 ∧ k_ ≠ g801) ho0 (fun k_ hk_ => ⟨(Nat.le_trans (below_size (bz HB.out)) hk_), (Kd.freshB (bk BK794.out) k_ hk_), (IsS63.fresh (hz HI801.out) k_ hk_)⟩)) (below_size (bz HB.out))); replace BK794 := Aside0.mk (KeepBut.blk hk (bk BK794.out) NB794_801.out (by simp)); replace HB := Aside0.mk (hb); replace HI801 := Aside0.mk (hi); clear hb hk hi ho0) | ((with_reducible refine gate_dst (N := 6) rfl ?_); refine bev (#[.int .i64 0, .int .i64 0, .int .i64 0, .int .i64 0, .string (⟨#[]⟩ : ByteArray), .int .i64 0, .string (⟨#[]⟩ : ByteArray), .slice none 0 0]) 31 ?_; intro gb817 hg w8 hbox hb; replace HO811 := Aside0.mk (Kd.V_below (Kd.V_elderB (vv HO811.out) gb817 (Nat.le_of_eq hg.symm)) hb); have BK817 := Aside0.mk (hbox); have GW817 := gs hg HB; have GE817 := GW817; replace HB := sb HB hb; have NB794_817 := na hg BK794; have NB817_794 := nb hg BK794; replace BK794 := kb BK794 hb; have NB801_817 := Aside0.mk ((nlt (a := g801) hg (IsS63.lt (show IsS63 w _ g801 t795 t812 t813 t814 t815 t816 from hz HI801.out)))); have NB817_801 := Aside0.mk ((ngt (a := g801) hg (IsS63.lt (show IsS63 w _ g801 t795 t812 t813 t814 t815 t816 from hz HI801.out)))); replace HI801 := Aside0.mk (IsS63.below (hz HI801.out) hb); clear hb hbox hg; have hnb9 := NB817_794.out; have hnc9 := NB794_817.out; have hnb10 := NB817_801.out; have hnc10 := NB801_817.out; obtain ⟨Z11_0, Z11_1, Z11_2, Z11_3, Z11_4, Z11_5, Z11_6, Z11_7, F11_0, F11_1, F11_2, F11_3, F11_4, F11_5, F11_6, F11_7⟩ := cz8 BK817.out; obtain ⟨Ao12, co12, eo12⟩ := Kd.V_slice HO811.out; subst eo12))
 (try simp only [Act.put, List.setIfInBounds_toArray, List.set_cons_zero, List.set_cons_succ])
 go_cut [22] (fun v22 wc => ∃ (kq : Nat) (x22_3 : Bool) (x802001_3 : Int) (x802002_3 : Int) (x802003_3 : Int) (x802004_3 : Int) (x802005_3 : Int), v22 = .bool x22_3 ∧ Aside0 (expr_Parse.j0 kq x22_3 t795 x802001_3 x802002_3 x802003_3 x802004_3 x802005_3 t802 t803 t804 t805 t806 t807 t808 t809 = some (r1, r2, r3, r4, r5, r6, r7, r8, r9, r10)) ∧ Aside0 (kq ≤ k) ∧ Aside0 (Kd.V k31 31 wc w.heap.size (fun k_ => (w.heap.size ≤ k_) ∧ k_ ≠ gb794 ∧ k_ ≠ gb817 ∧ k_ ≠ g801) (.slice Ao12 t809.length co12) t809) ∧ Aside0 (wc.heap[gb794]? = some (.cells #[.int .i64 0, .int .i64 0, .int .i64 0, .int .i64 0, .string (⟨#[]⟩ : ByteArray), .int .i64 0, .string (⟨#[]⟩ : ByteArray), (.slice none 0 0)] 31 (0, 0))) ∧ Aside0 (wc.heap[gb817]? = some (.cells #[.int .i64 t802, .int .i64 t803, .int .i64 t804, .int .i64 t805, .string t806, .int .i64 t807, .string t808, (.slice Ao12 t809.length co12)] 31 (0, 0))) ∧ Aside0 (IsS63 w wc g801 t795 x802001_3 x802002_3 x802003_3 x802004_3 x802005_3) ∧ Aside0 (Below w.heap.size w wc))
 case first =>
  have H := HC4.out
  clear HC4
  by_cases c13 : t815 = 0
  ·rw [if_pos c13] at H
   have c13b0 : (t815 == 0) = true := beq_iff_eq.mpr c13
   have c13b1 : (t815 != 0) = false := bne_eq_false_iff_eq.mpr c13
   clear c13
   (first | rw [c13b0] | (simp only [i64_w, i32_w]; rw [c13b0]) | skip)
   replace H := Option.bind_eq_some_iff.mp H
   obtain ⟨⟨t818, t819, t820, t821, t822, t823⟩, A140, H⟩ := H
   replace H : (expr_Parse.j0 k (!t818) t795 t819 t820 t821 t822 t823 t802 t803 t804 t805 t806 t807 t808 t809) = some (r1, r2, r3, r4, r5, r6, r7, r8, r9, r10) := H
   have A14 := Aside0.mk A140
   clear A140
   have H' := Aside0.mk H
   clear H
   obtain ⟨ASz15_0, cSz15_0, HSz15_0, Z15_0, Z15_1, Z15_2, Z15_3, Z15_4, Z15_5, F15_1, F15_2, F15_3, F15_4, F15_5⟩ := open63 HI801.out
   go_wp2_with (first | (go_at_call 32; (with_reducible refine (expr_Parser_Ended.calls g801 t795 t812 t813 t814 t815 t816 t818 t819 t820 t821 t822 t823 w _ ?side1 ?side2 A14.out).mono ?_); (case side1 => exact hz HI801.out); (case side2 => exact bz HB.out); rintro e w16 ⟨rfl, hi, hb, hk⟩; replace BK794 := Aside0.mk (KeepBut.blk hk (g' := gb794) (o := .cells #[.int .i64 0, .int .i64 0, .int .i64 0, .int .i64 0, .string (⟨#[]⟩ : ByteArray), .int .i64 0, .string (⟨#[]⟩ : ByteArray), .slice none 0 0] 31 (0, 0)) (bp BK794.out) NB794_801.out (by simp)); replace HO811 := Aside0.mk (Kd.V_mono (Kd.V_keep (Kd.V_mono (ok := fun k_ => ((((w.heap.size ≤ k_)) ∧ (k_ ≠ gb794 ∧ k_ ≠ g801)) ∧ k_ ≠ gb817)) (by (with_reducible repeat (first | apply Kd.V_alloc | apply Kd.V_drewN | apply Kd.V_drew)); exact (Kd.V_mono (Kd.V_far (p := ⟨gb817, 7, none⟩) (Kd.V_far (p := ⟨gb817, 6, none⟩) (Kd.V_far (p := ⟨gb817, 5, none⟩) (Kd.V_far (p := ⟨gb817, 4, none⟩) (Kd.V_far (p := ⟨gb817, 3, none⟩) (Kd.V_far (p := ⟨gb817, 2, none⟩) (Kd.V_far (p := ⟨gb817, 1, none⟩) (Kd.V_far (p := ⟨gb817, 0, none⟩) (Kd.V_mono HO811.out (fun k_ hk => (⟨hk, hk.2⟩ : _ ∧ k_ ≠ gb817))) (fun _ hk => hk.2) (.int .i64 t802)) (fun _ hk => hk.2) (.int .i64 t803)) (fun _ hk => hk.2) (.int .i64 t804)) (fun _ hk => hk.2) (.int .i64 t805)) (fun _ hk => hk.2) (.string t806)) (fun _ hk => hk.2) (.int .i64 t807)) (fun _ hk => hk.2) (.string t808)) (fun _ hk => hk.2) (.slice Ao12 t809.length co12)) (fun _ h_ => h_.1))) (fun k_ hk_ => (⟨hk_, hk_.1.2.2⟩ : _ ∧ k_ ≠ g801))) hk (fun _ h => h.2)) (fun _ h => h.1)); replace BK817 := Aside0.mk (KeepBut.blk hk (g' := gb817) (o := .cells #[.int .i64 t802, .int .i64 t803, .int .i64 t804, .int .i64 t805, .string t806, .int .i64 t807, .string t808, .slice Ao12 t809.length co12] 31 (0, 0)) (bp BK817.out) NB817_801.out (by simp)); replace HB := Aside0.mk (hb); replace HI801 := Aside0.mk (hi); clear hb hk hi))
   go_meet
   case rel => exact ⟨_, (!t818), (t819), (t820), (t821), (t822), (t823), sz, H', ⟨oz⟩, ⟨by (with_reducible repeat (first | apply Kd.V_alloc | apply Kd.V_drewN | apply Kd.V_drew)); exact Kd.V_mono HO811.out (fun _ hk => ⟨hk.1.1, ⟨hk.1.2.1, ⟨hk.2, hk.1.2.2⟩⟩⟩)⟩, ⟨bk BK794.out⟩, ⟨bk BK817.out⟩, ⟨hz HI801.out⟩, ⟨bz HB.out⟩⟩
  ·rw [if_neg c13] at H
   have c13b0 : (t815 == 0) = false := beq_eq_false_iff_ne.mpr c13
   have c13b1 : (t815 != 0) = true := bne_iff_ne.mpr c13
   (first | rw [c13b0] | (simp only [i64_w, i32_w]; rw [c13b0]) | skip)
   have H' := Aside0.mk H
   clear H
   obtain ⟨ASz17_0, cSz17_0, HSz17_0, Z17_0, Z17_1, Z17_2, Z17_3, Z17_4, Z17_5, F17_1, F17_2, F17_3, F17_4, F17_5⟩ := open63 HI801.out
   go_wp2
   go_meet
   case rel => exact ⟨_, (false), (t812), (t813), (t814), (t815), (t816), sz, H', ⟨oz⟩, ⟨vfV HO811.out⟩, ⟨bp BK794.out⟩, ⟨bp BK817.out⟩, ⟨hz HI801.out⟩, ⟨bz HB.out⟩⟩
 case rest =>
  clear HC4
  try clear c1; try clear p2; try clear c3; try clear c9; try clear c10; try clear c12; try clear c13; try clear c13b0; try clear c13b1; try clear Z11_0; try clear Z11_1; try clear Z11_2; try clear Z11_3; try clear Z11_4; try clear Z11_5; try clear Z11_6; try clear Z11_7; try clear Z15_0; try clear Z15_1; try clear Z15_2; try clear Z15_3; try clear Z15_4; try clear Z15_5; try clear Z17_0; try clear Z17_1; try clear Z17_2; try clear Z17_3; try clear Z17_4; try clear Z17_5; try clear F11_0; try clear F11_1; try clear F11_2; try clear F11_3; try clear F11_4; try clear F11_5; try clear F11_6; try clear F11_7; try clear F15_1; try clear F15_2; try clear F15_3; try clear F15_4; try clear F15_5; try clear F17_1; try clear F17_2; try clear F17_3; try clear F17_4; try clear F17_5
  obtain ⟨kq, x22_3, x802001_3, x802002_3, x802003_3, x802004_3, x802005_3, rfl, HA, HJ3, HO_818007, BK794, BK817, HI801, HB⟩ := hcut
  cases kq with
  | zero => exact absurd HA.out (by simp [expr_Parse.j0])
  | succ kj3 =>
   have H := HA.out
   clear HA
   simp only [expr_Parse.j0] at H
   by_cases c18 : x22_3 = true
   ·subst c18
    (try simp only [Bool.not_true, Bool.not_false])
    have H1 : (none) = some (r1, r2, r3, r4, r5, r6, r7, r8, r9, r10) := by rw [if_pos rfl] at H; exact H
    clear H
    have H := H1
    clear H1
    exact absurd H (by simp)
   ·replace c18 := Bool.eq_false_iff.mpr c18
    subst c18
    (try simp only [Bool.not_true, Bool.not_false])
    have H1 : ((expr_Parser_Error.f t795 x802001_3 x802002_3 x802003_3 x802004_3 x802005_3).bind fun bt824 => (if bt824.2.1 = 0 then ((expr_Sound.f kj3 t802 t803 t804 t805 t806 t807 t808 t809).bind fun t831 => (if t831 = true then (some (t802, t803, t804, t805, t806, t807, t808, t809, 0, 0)) else (none))) else (none))) = some (r1, r2, r3, r4, r5, r6, r7, r8, r9, r10) := by rw [if_neg (show ¬ (false = true) by decide)] at H; exact H
    clear H
    have H := H1
    clear H1
    replace H := Option.bind_eq_some_iff.mp H
    obtain ⟨⟨t824, t825, t826, t827, t828, t829, t830⟩, A190, H⟩ := H
    replace H : (if t825 = 0 then ((expr_Sound.f kj3 t802 t803 t804 t805 t806 t807 t808 t809).bind fun t831 => (if t831 = true then (some (t802, t803, t804, t805, t806, t807, t808, t809, 0, 0)) else (none))) else (none)) = some (r1, r2, r3, r4, r5, r6, r7, r8, r9, r10) := H
    have A19 := Aside0.mk A190
    clear A190
    by_cases c20 : t825 = 0
    ·rw [if_pos c20] at H
     have c20b0 : (t825 == 0) = true := beq_iff_eq.mpr c20
     have c20b1 : (t825 != 0) = false := bne_eq_false_iff_eq.mpr c20
     clear c20
     replace H := Option.bind_eq_some_iff.mp H
     obtain ⟨t831, A210, H⟩ := H
     replace H : (if t831 = true then (some (t802, t803, t804, t805, t806, t807, t808, t809, 0, 0)) else (none)) = some (r1, r2, r3, r4, r5, r6, r7, r8, r9, r10) := H
     have A21 := Aside0.mk A210
     clear A210
     by_cases c22 : t831 = true
     ·subst c22
      (try simp only [Bool.not_true, Bool.not_false])
      have H1 : (some (t802, t803, t804, t805, t806, t807, t808, t809, 0, 0)) = some (r1, r2, r3, r4, r5, r6, r7, r8, r9, r10) := by rw [if_pos rfl] at H; exact H
      clear H
      have H := H1
      clear H1
      simp only [Option.some.injEq, Prod.mk.injEq] at H
      obtain ⟨rfl, rfl, rfl, rfl, rfl, rfl, rfl, rfl, rfl, rfl⟩ := H
      go_wp2_with (first | ((with_reducible refine gate_callee (f := 34) rfl ?_); refine gl_ (some 27) Tryz.func34 (by kernel_rfl) #[.pointer (some ⟨g801, 0, none⟩)] rfl ?_; (with_reducible refine (expr_Parser_Error.calls g801 t795 x802001_3 x802002_3 x802003_3 x802004_3 x802005_3 t824 t825 t826 t827 t828 t829 t830 w _ ?side1 ?side2 A19.out).mono ?_); (case side1 => exact hz HI801.out); (case side2 => exact bz HB.out); rintro e w23 ⟨rfl, hi, hb, hk⟩; refine ⟨_, rfl, ?_⟩; replace HO_818007 := Aside0.mk (Kd.V_mono (Kd.V_keep (Kd.V_mono (ok := fun k_ => (((w.heap.size ≤ k_)) ∧ (k_ ≠ gb794 ∧ (k_ ≠ gb817 ∧ k_ ≠ g801)))) (vv HO_818007.out) (fun k_ hk_ => (⟨hk_, hk_.2.2.2⟩ : _ ∧ k_ ≠ g801))) hk (fun _ h => h.2)) (fun _ h => h.1)); replace BK794 := Aside0.mk (KeepBut.blk hk (bk BK794.out) NB794_801.out (by simp)); replace BK817 := Aside0.mk (KeepBut.blk hk (bk BK817.out) NB817_801.out (by simp)); replace HB := Aside0.mk (hb); replace HI801 := Aside0.mk (hi); clear hb hk hi; have hnb24 := NB817_794.out; have hnc24 := NB794_817.out; have hnb25 := NB817_801.out; have hnc25 := NB801_817.out; obtain ⟨Z26_0, Z26_1, Z26_2, Z26_3, Z26_4, Z26_5, Z26_6, Z26_7, F26_0, F26_1, F26_2, F26_3, F26_4, F26_5, F26_6, F26_7⟩ := cz8 BK817.out) | ((with_reducible refine gate_callee (f := 35) rfl ?_); refine gl_ (some 36) Tryz.func35 (by kernel_rfl) #[.agg #[.int .i64 t802, .int .i64 t803, .int .i64 t804, .int .i64 t805, .string t806, .int .i64 t807, .string t808, .slice Ao12 t809.length co12]] rfl ?_; (with_reducible refine (expr_Sound.calls kj3 t802 t803 t804 t805 t806 t807 t808 _ _ t809 true _ ?side1 ?side2 ?side3 A21.out).mono ?_); (case side1 => repeat (first | exact (Kd.V_reads' HO_818007.out).2.2 | (with_reducible refine Kd.C_alloc ?_ _) | (with_reducible refine Kd.C_drewN ?_ _) | (with_reducible refine Kd.C_drew ?_))); (case side2 => exact (Kd.V_reads' HO_818007.out).2.1); (case side3 => exact tabs_of HT.out (bz HB.out)); rintro e w27 ⟨rfl, hb⟩; refine ⟨_, rfl, ?_⟩; replace HO_818007 := Aside0.mk (Kd.V_below (vv HO_818007.out) hb); replace BK794 := kb BK794 hb; replace BK817 := kb BK817 hb; replace HB := sb HB hb; replace HI801 := Aside0.mk (IsS63.below (hz HI801.out) hb); clear hb; obtain ⟨Z28_0, Z28_1, Z28_2, Z28_3, Z28_4, Z28_5, Z28_6, Z28_7, F28_0, F28_1, F28_2, F28_3, F28_4, F28_5, F28_6, F28_7⟩ := cz8 BK817.out; have hnb29 := NB794_801.out; have hnc29 := NB801_794.out; obtain ⟨Z30_0, Z30_1, Z30_2, Z30_3, Z30_4, Z30_5, Z30_6, Z30_7, F30_0, F30_1, F30_2, F30_3, F30_4, F30_5, F30_6, F30_7⟩ := cz8 BK794.out))
      refine bodyPost_ret (results_ctt rfl _ _ gb794 31 #[.int .i64 t802, .int .i64 t803, .int .i64 t804, .int .i64 t805, .string t806, .int .i64 t807, .string t808, .slice Ao12 t809.length co12] (0, 0) _ rfl (bp BK794.out) Tryz.underlying31 rfl (by kernel_rfl)) rfl ?_
      exact ⟨_, az, by (with_reducible repeat (first | apply Kd.V_alloc | apply Kd.V_drewN | apply Kd.V_drew)); exact Kd.V_mono (Kd.V_far (p := ⟨gb794, 7, none⟩) (Kd.V_far (p := ⟨gb794, 6, none⟩) (Kd.V_far (p := ⟨gb794, 5, none⟩) (Kd.V_far (p := ⟨gb794, 4, none⟩) (Kd.V_far (p := ⟨gb794, 3, none⟩) (Kd.V_far (p := ⟨gb794, 2, none⟩) (Kd.V_far (p := ⟨gb794, 1, none⟩) (Kd.V_far (p := ⟨gb794, 0, none⟩) (Kd.V_mono HO_818007.out (fun k_ hk => (⟨hk, hk.2.1⟩ : _ ∧ k_ ≠ gb794))) (fun _ hk => hk.2) (.int .i64 t802)) (fun _ hk => hk.2) (.int .i64 t803)) (fun _ hk => hk.2) (.int .i64 t804)) (fun _ hk => hk.2) (.int .i64 t805)) (fun _ hk => hk.2) (.string t806)) (fun _ hk => hk.2) (.int .i64 t807)) (fun _ hk => hk.2) (.string t808)) (fun _ hk => hk.2) (.slice Ao12 t809.length co12)) (fun _ hk => Nat.le_trans HBO.out.size hk.1.1), bz (below_then HBO.out HBO.out.size HB.out)⟩
     ·replace c22 := Bool.eq_false_iff.mpr c22
      subst c22
      (try simp only [Bool.not_true, Bool.not_false])
      have H1 : (none) = some (r1, r2, r3, r4, r5, r6, r7, r8, r9, r10) := by rw [if_neg (show ¬ (false = true) by decide)] at H; exact H
      clear H
      have H := H1
      clear H1
      exact absurd H (by simp)
    ·rw [if_neg c20] at H
     exact absurd H (by simp)
end Go.Proofs.YtgkemhgihbfmmaaGreatDoor.PA
end
section
namespace Go.Proofs.YtgkemhgihbfmmaaGreatDoor.PA
open Go.RowKit Go.Proofs.YtgkemhgihbfmmaaGreatDoorW.PrintWords Go.Proofs.YtgkemhgihbfmmaaGreatDoorW.PrintLast Go.Proofs.YtgkemhgihbfmmaaGreatDoorW.PrintMore
attribute [local go_sem] max2_int min2_int max_two min_two max_three min_three max_four min_four isSome_set str_gtr
set_option linter.unusedVariables false
set_option linter.unusedSimpArgs false
def calc_Less.j0 : Nat → Int → Bool → Option (Int × Int × Int × ByteArray × Int)
 | 0, _, _ => none
 | k + 1, x5, x31 => if x31 = true then (none) else ((logic_Truth.f (decide (x5 < 0))).bind fun bt837 => (some (bt837.1, bt837.2.1, bt837.2.2.1, bt837.2.2.2.1, bt837.2.2.2.2)))
def calc_Less.f (k : Nat) (a0_0 : Int) (a0_1 : Int) (a0_2 : Int) (a0_3 : ByteArray) (a0_4 : Int) (a1_0 : Int) (a1_1 : Int) (a1_2 : Int) (a1_3 : ByteArray) (a1_4 : Int) : Option (Int × Int × Int × ByteArray × Int) := (value_Compare.f k a0_0 a0_1 a0_2 a0_3 a0_4 a1_0 a1_1 a1_2 a1_3 a1_4).bind fun bt835 => (if bt835.2 = 0 then (if a0_0 = a1_0 then (if a0_0 = 0 then (calc_Less.j0 k bt835.1 true) else (calc_Less.j0 k bt835.1 (a0_0 == 3))) else (calc_Less.j0 k bt835.1 true)) else (calc_Less.j0 k bt835.1 true))
theorem calc_Less.mono_l : ∀ k, (∀ y0 y1, LeO (calc_Less.j0 k y0 y1) (calc_Less.j0 (k + 1) y0 y1))
 | 0 => fun _ _ r h => by simp [calc_Less.j0] at h
 | k + 1 => by
  have ih0 := calc_Less.mono_l k
  ·intro y0 y1
   unfold calc_Less.j0
   have q0 := @value_Compare.mono; exact lmo
theorem calc_Less.mono : ∀ a0 a1 a2 a3 a4 a5 a6 a7 a8 a9 k, LeO (calc_Less.f k a0 a1 a2 a3 a4 a5 a6 a7 a8 a9) (calc_Less.f (k + 1) a0 a1 a2 a3 a4 a5 a6 a7 a8 a9) := by
 intro a0 a1 a2 a3 a4 a5 a6 a7 a8 a9 k
 have ih0 := calc_Less.mono_l k
 unfold calc_Less.f
 have q0 := @value_Compare.mono; exact lmo
set_option maxHeartbeats 8000000 in
set_option maxRecDepth 100000 in
theorem calc_Less.calls (k : Nat) (a0_0 : Int) (a0_1 : Int) (a0_2 : Int) (a0_3 : ByteArray) (a0_4 : Int) (a1_0 : Int) (a1_1 : Int) (a1_2 : Int) (a1_3 : ByteArray) (a1_4 : Int) (r1 : Int) (r2 : Int) (r3 : Int) (r4 : ByteArray) (r5 : Int) (w : World) (hT : Tabs w) (h : calc_Less.f k a0_0 a0_1 a0_2 a0_3 a0_4 a1_0 a1_1 a1_2 a1_3 a1_4 = some (r1, r2, r3, r4, r5)) :
  Calls Tryz.prog 28 #[.agg #[.int .i64 a0_0, .int .i64 a0_1, .int .i64 a0_2, .string a0_3, .int .i64 a0_4], .agg #[.int .i64 a1_0, .int .i64 a1_1, .int .i64 a1_2, .string a1_3, .int .i64 a1_4]] w fun e w' => e = .returned (.agg #[.int .i64 r1, .int .i64 r2, .int .i64 r3, .string r4, .int .i64 r5]) ∧ Below w.heap.size w w' := by
 have hu25 := Tryz.underlying25
 have HT := Aside0.mk hT; have HZ := Aside0.mk hT.null.pos; obtain ⟨hn0_, hn1_, hn2_, hn3_, hn4_⟩ := hT.null
 clear hT
 have HB := Aside0.mk (Below.refl w.heap.size w)
 have H : ((value_Compare.f k a0_0 a0_1 a0_2 a0_3 a0_4 a1_0 a1_1 a1_2 a1_3 a1_4).bind fun bt835 => (if bt835.2 = 0 then (if a0_0 = a1_0 then (if a0_0 = 0 then (calc_Less.j0 k bt835.1 true) else (calc_Less.j0 k bt835.1 (a0_0 == 3))) else (calc_Less.j0 k bt835.1 true)) else (calc_Less.j0 k bt835.1 true))) = some (r1, r2, r3, r4, r5) := h
 clear h
 replace H := Option.bind_eq_some_iff.mp H
 obtain ⟨⟨t835, t836⟩, A30, H⟩ := H
 replace H : (if t836 = 0 then (if a0_0 = a1_0 then (if a0_0 = 0 then (calc_Less.j0 k t835 true) else (calc_Less.j0 k t835 (a0_0 == 3))) else (calc_Less.j0 k t835 true)) else (calc_Less.j0 k t835 true)) = some (r1, r2, r3, r4, r5) := H
 have A3 := Aside0.mk A30
 clear A30
 have HC4 := Aside0.mk H
 clear H
 go_enter Tryz.func28, Tryz.ntmps28
 go_upto_region 2 with (first | ((with_reducible refine gate_dst (N := 2) rfl ?_); refine bev (#[.int .i64 a0_0, .int .i64 a0_1, .int .i64 a0_2, .string a0_3, .int .i64 a0_4]) 25 ?_; intro gb832 hg w5 hbox hb; have BK832 := Aside0.mk (hbox); have GW832 := gs hg HB; have hz832 := ne0 HZ.out GW832.out; have GE832 := GW832; replace HB := sb HB hb; obtain ⟨hn0_, hn1_, hn2_, hn3_, hn4_⟩ := nullHere HT.out HB.out; clear hb hbox hg) | ((with_reducible refine gate_dst (N := 3) rfl ?_); refine bev (#[.int .i64 a1_0, .int .i64 a1_1, .int .i64 a1_2, .string a1_3, .int .i64 a1_4]) 25 ?_; intro gb833 hg w6 hbox hb; have BK833 := Aside0.mk (hbox); have GW833 := gs hg HB; have hz833 := ne0 HZ.out GW833.out; have GE833 := GW833; replace HB := sb HB hb; obtain ⟨hn0_, hn1_, hn2_, hn3_, hn4_⟩ := nullHere HT.out HB.out; have NB832_833 := na hg BK832; have NB833_832 := nb hg BK832; replace BK832 := kb BK832 hb; clear hb hbox hg) | ((with_reducible refine gate_dst (N := 4) rfl ?_); refine bev (#[.int .i64 0, .int .i64 0, .int .i64 0, .string (⟨#[]⟩ : ByteArray), .int .i64 0]) 25 ?_; intro gb834 hg w7 hbox hb; have BK834 := Aside0.mk (hbox); have GW834 := gs hg HB; have hz834 := ne0 HZ.out GW834.out; have GE834 := GW834; replace HB := sb HB hb; obtain ⟨hn0_, hn1_, hn2_, hn3_, hn4_⟩ := nullHere HT.out HB.out; have NB832_834 := na hg BK832; have NB834_832 := nb hg BK832; replace BK832 := kb BK832 hb; have NB833_834 := na hg BK833; have NB834_833 := nb hg BK833; replace BK833 := kb BK833 hb; clear hb hbox hg; have hnb8 := NB832_833.out; have hnc8 := NB833_832.out; have hnb9 := NB832_834.out; have hnc9 := NB834_832.out; obtain ⟨Z10_0, Z10_1, Z10_2, Z10_3, Z10_4, F10_0, F10_1, F10_2, F10_3, F10_4⟩ := cz5 BK832.out; have hnb11 := NB833_834.out; have hnc11 := NB834_833.out; obtain ⟨Z12_0, Z12_1, Z12_2, Z12_3, Z12_4, F12_0, F12_1, F12_2, F12_3, F12_4⟩ := cz5 BK833.out) | ((with_reducible refine gate_callee (f := 61) rfl ?_); refine gl_ (some 10) Tryz.func61 (by kernel_rfl) #[.agg #[.int .i64 a0_0, .int .i64 a0_1, .int .i64 a0_2, .string a0_3, .int .i64 a0_4], .agg #[.int .i64 a1_0, .int .i64 a1_1, .int .i64 a1_2, .string a1_3, .int .i64 a1_4]] rfl ?_; (with_reducible refine (value_Compare.calls k a0_0 a0_1 a0_2 a0_3 a0_4 a1_0 a1_1 a1_2 a1_3 a1_4 t835 t836 _ ?side1 A3.out).mono ?_); (case side1 => exact tabs_of HT.out (bz HB.out)); rintro e w13 ⟨rfl, hb⟩; refine ⟨_, rfl, ?_⟩; replace BK832 := kb BK832 hb; replace BK833 := kb BK833 hb; replace BK834 := kb BK834 hb; replace HB := sb HB hb; obtain ⟨hn0_, hn1_, hn2_, hn3_, hn4_⟩ := nullHere HT.out HB.out; clear hb))
 (try simp only [Act.put, List.setIfInBounds_toArray, List.set_cons_zero, List.set_cons_succ])
 go_cut [31] (fun v31 wc => ∃ (kq : Nat) (x31_3 : Bool), v31 = .bool x31_3 ∧ Aside0 (calc_Less.j0 kq t835 x31_3 = some (r1, r2, r3, r4, r5)) ∧ Aside0 (kq ≤ k) ∧ Aside0 (wc.heap[gb832]? = some (.cells #[.int .i64 a0_0, .int .i64 a0_1, .int .i64 a0_2, .string a0_3, .int .i64 a0_4] 25 (0, 0))) ∧ Aside0 (wc.heap[gb833]? = some (.cells #[.int .i64 a1_0, .int .i64 a1_1, .int .i64 a1_2, .string a1_3, .int .i64 a1_4] 25 (0, 0))) ∧ Aside0 (wc.heap[gb834]? = some (.cells #[.int .i64 0, .int .i64 0, .int .i64 0, .string (⟨#[]⟩ : ByteArray), .int .i64 0] 25 (0, 0))) ∧ Aside0 (Below w.heap.size w wc))
 case first =>
  have H := HC4.out
  clear HC4
  by_cases c14 : t836 = 0
  ·rw [if_pos c14] at H
   have c14b0 : (t836 == 0) = true := beq_iff_eq.mpr c14
   have c14b1 : (t836 != 0) = false := bne_eq_false_iff_eq.mpr c14
   clear c14
   (first | rw [c14b0] | (simp only [i64_w, i32_w]; rw [c14b0]) | skip)
   by_cases c15 : a0_0 = a1_0
   ·rw [if_pos c15] at H
    have c15b0 : (a0_0 == a1_0) = true := beq_iff_eq.mpr c15
    have c15b1 : (a0_0 != a1_0) = false := bne_eq_false_iff_eq.mpr c15
    clear c15
    by_cases c16 : a0_0 = 0
    ·rw [if_pos c16] at H
     have c16b0 : (a0_0 == 0) = true := beq_iff_eq.mpr c16
     have c16b1 : (a0_0 != 0) = false := bne_eq_false_iff_eq.mpr c16
     clear c16
     have H' := Aside0.mk H
     clear H
     have hnb17 := NB832_833.out
     have hnc17 := NB833_832.out
     have hnb18 := NB832_834.out
     have hnc18 := NB834_832.out
     obtain ⟨Z19_0, Z19_1, Z19_2, Z19_3, Z19_4, F19_0, F19_1, F19_2, F19_3, F19_4⟩ := cz5 BK832.out
     have hnb20 := NB833_834.out
     have hnc20 := NB834_833.out
     obtain ⟨Z21_0, Z21_1, Z21_2, Z21_3, Z21_4, F21_0, F21_1, F21_2, F21_3, F21_4⟩ := cz5 BK833.out
     go_wp2
     go_meet
     case rel => exact ⟨_, (true), sz, H', ⟨oz⟩, ⟨bk BK832.out⟩, ⟨bk BK833.out⟩, ⟨bk BK834.out⟩, ⟨bz HB.out⟩⟩
    ·rw [if_neg c16] at H
     have c16b0 : (a0_0 == 0) = false := beq_eq_false_iff_ne.mpr c16
     have c16b1 : (a0_0 != 0) = true := bne_iff_ne.mpr c16
     have H' := Aside0.mk H
     clear H
     have hnb22 := NB832_833.out
     have hnc22 := NB833_832.out
     have hnb23 := NB832_834.out
     have hnc23 := NB834_832.out
     obtain ⟨Z24_0, Z24_1, Z24_2, Z24_3, Z24_4, F24_0, F24_1, F24_2, F24_3, F24_4⟩ := cz5 BK832.out
     have hnb25 := NB833_834.out
     have hnc25 := NB834_833.out
     obtain ⟨Z26_0, Z26_1, Z26_2, Z26_3, Z26_4, F26_0, F26_1, F26_2, F26_3, F26_4⟩ := cz5 BK833.out
     go_wp2
     go_meet
     case rel => exact ⟨_, ((a0_0 == 3)), sz, H', ⟨oz⟩, ⟨bk BK832.out⟩, ⟨bk BK833.out⟩, ⟨bk BK834.out⟩, ⟨bz HB.out⟩⟩
   ·rw [if_neg c15] at H
    have c15b0 : (a0_0 == a1_0) = false := beq_eq_false_iff_ne.mpr c15
    have c15b1 : (a0_0 != a1_0) = true := bne_iff_ne.mpr c15
    have H' := Aside0.mk H
    clear H
    have hnb27 := NB832_833.out
    have hnc27 := NB833_832.out
    have hnb28 := NB832_834.out
    have hnc28 := NB834_832.out
    obtain ⟨Z29_0, Z29_1, Z29_2, Z29_3, Z29_4, F29_0, F29_1, F29_2, F29_3, F29_4⟩ := cz5 BK832.out
    have hnb30 := NB833_834.out
    have hnc30 := NB834_833.out
    obtain ⟨Z31_0, Z31_1, Z31_2, Z31_3, Z31_4, F31_0, F31_1, F31_2, F31_3, F31_4⟩ := cz5 BK833.out
    go_wp2
    go_meet
    case rel => exact ⟨_, (true), sz, H', ⟨oz⟩, ⟨bk BK832.out⟩, ⟨bk BK833.out⟩, ⟨bk BK834.out⟩, ⟨bz HB.out⟩⟩
  ·rw [if_neg c14] at H
   have c14b0 : (t836 == 0) = false := beq_eq_false_iff_ne.mpr c14
   have c14b1 : (t836 != 0) = true := bne_iff_ne.mpr c14
   (first | rw [c14b0] | (simp only [i64_w, i32_w]; rw [c14b0]) | skip)
   have H' := Aside0.mk H
   clear H
   go_wp2
   go_meet
   case rel => exact ⟨_, (true), sz, H', ⟨oz⟩, ⟨bk BK832.out⟩, ⟨bk BK833.out⟩, ⟨bk BK834.out⟩, ⟨bz HB.out⟩⟩
 case rest =>
  clear HC4
  try clear c1; try clear c2; try clear p2; try clear c3; try clear c6; try clear c8; try clear c9; try clear c11; try clear c14; try clear c14b0; try clear c14b1; try clear c15; try clear c15b0; try clear c15b1; try clear c16; try clear c16b0; try clear c16b1; try clear c17; try clear c18; try clear c20; try clear c22; try clear c23; try clear c25; try clear c27; try clear c28; try clear c30; try clear Z10_0; try clear Z10_1; try clear Z10_2; try clear Z10_3; try clear Z10_4; try clear Z12_0; try clear Z12_1; try clear Z12_2; try clear Z12_3; try clear Z12_4; try clear Z19_0; try clear Z19_1; try clear Z19_2; try clear Z19_3; try clear Z19_4; try clear Z21_0; try clear Z21_1; try clear Z21_2; try clear Z21_3; try clear Z21_4; try clear Z24_0; try clear Z24_1; try clear Z24_2; try clear Z24_3; try clear Z24_4; try clear Z26_0; try clear Z26_1; try clear Z26_2; try clear Z26_3; try clear Z26_4; try clear Z29_0; try clear Z29_1; try clear Z29_2; try clear Z29_3; try clear Z29_4; try clear Z31_0; try clear Z31_1; try clear Z31_2; try clear Z31_3; try clear Z31_4; try clear F10_0; try clear F10_1; try clear F10_2; try clear F10_3; try clear F10_4; try clear F12_0; try clear F12_1; try clear F12_2; try clear F12_3; try clear F12_4; try clear F19_0; try clear F19_1; try clear F19_2; try clear F19_3; try clear F19_4; try clear F21_0; try clear F21_1; try clear F21_2; try clear F21_3; try clear F21_4; try clear F24_0; try clear F24_1; try clear F24_2; try clear F24_3; try clear F24_4; try clear F26_0; try clear F26_1; try clear F26_2; try clear F26_3; try clear F26_4; try clear F29_0; try clear F29_1; try clear F29_2; try clear F29_3; try clear F29_4; try clear F31_0; try clear F31_1; try clear F31_2; try clear F31_3; try clear F31_4
  obtain ⟨kq, x31_3, rfl, HA, HJ3, BK832, BK833, BK834, HB⟩ := hcut; obtain ⟨hn0_, hn1_, hn2_, hn3_, hn4_⟩ := nullHere HT.out HB.out
  cases kq with
  | zero => exact absurd HA.out (by simp [calc_Less.j0])
  | succ kj3 =>
   have H := HA.out
   clear HA
   simp only [calc_Less.j0] at H
   by_cases c32 : x31_3 = true
   ·subst c32
    (try simp only [Bool.not_true, Bool.not_false])
    have H1 : (none) = some (r1, r2, r3, r4, r5) := by rw [if_pos rfl] at H; exact H
    clear H
    have H := H1
    clear H1
    exact absurd H (by simp)
   ·replace c32 := Bool.eq_false_iff.mpr c32
    subst c32
    (try simp only [Bool.not_true, Bool.not_false])
    have H1 : ((logic_Truth.f (decide (t835 < 0))).bind fun bt837 => (some (bt837.1, bt837.2.1, bt837.2.2.1, bt837.2.2.2.1, bt837.2.2.2.2))) = some (r1, r2, r3, r4, r5) := by rw [if_neg (show ¬ (false = true) by decide)] at H; exact H
    clear H
    have H := H1
    clear H1
    replace H := Option.bind_eq_some_iff.mp H
    obtain ⟨⟨t837, t838, t839, t840, t841⟩, A330, H⟩ := H
    replace H : (some (t837, t838, t839, t840, t841)) = some (r1, r2, r3, r4, r5) := H
    have A33 := Aside0.mk A330
    clear A330
    simp only [Option.some.injEq, Prod.mk.injEq] at H
    obtain ⟨rfl, rfl, rfl, rfl, rfl⟩ := H
    go_wp2_with (first | ((with_reducible refine gate_callee (f := 59) rfl ?_); refine gl_ (some 35) Tryz.func59 (by kernel_rfl) #[.bool (decide (t835 < 0))] rfl ?_; (with_reducible refine (logic_Truth.calls (decide (t835 < 0)) t837 t838 t839 t840 t841 _ A33.out).mono ?_); rintro e w34 ⟨rfl, hb⟩; refine ⟨_, rfl, ?_⟩; replace BK832 := kb BK832 hb; replace BK833 := kb BK833 hb; replace BK834 := kb BK834 hb; replace HB := sb HB hb; obtain ⟨hn0_, hn1_, hn2_, hn3_, hn4_⟩ := nullHere HT.out HB.out; clear hb; have hnb35 := NB834_832.out; have hnc35 := NB832_834.out; have hnb36 := NB834_833.out; have hnc36 := NB833_834.out; obtain ⟨Z37_0, Z37_1, Z37_2, Z37_3, Z37_4, F37_0, F37_1, F37_2, F37_3, F37_4⟩ := cz5 BK834.out))
    refine bodyPost_ret (results_cell_row rfl _ _ gb834 25 #[.int .i64 t837, .int .i64 t838, .int .i64 t839, .string t840, .int .i64 t841] (0, 0) _ rfl (bp BK834.out) Tryz.underlying25 rfl (by kernel_rfl)) rfl ?_
    exact ⟨az, bz HB.out⟩
end Go.Proofs.YtgkemhgihbfmmaaGreatDoor.PA
end
section
namespace Go.Proofs.YtgkemhgihbfmmaaGreatDoor.PA
open Go.RowKit Go.Proofs.YtgkemhgihbfmmaaGreatDoorW.PrintWords Go.Proofs.YtgkemhgihbfmmaaGreatDoorW.PrintLast Go.Proofs.YtgkemhgihbfmmaaGreatDoorW.PrintMore
attribute [local go_sem] max2_int min2_int max_two min_two max_three min_three max_four min_four isSome_set str_gtr
set_option linter.unusedVariables false
set_option linter.unusedSimpArgs false
attribute [local go_sem high] eqA25
def logic_Is.f (a0_0 : Int) (a0_1 : Int) (a0_2 : Int) (a0_3 : ByteArray) (a0_4 : Int) : Option (Bool) := (logic_Truth.f true).bind fun bt843 => (some (a0_0 == bt843.1 && ((a0_1 == bt843.2.1 && (a0_2 == bt843.2.2.1)) && (a0_3.toList == bt843.2.2.2.1.toList && (a0_4 == bt843.2.2.2.2)))))
set_option maxHeartbeats 8000000 in
set_option maxRecDepth 100000 in
theorem logic_Is.calls (a0_0 : Int) (a0_1 : Int) (a0_2 : Int) (a0_3 : ByteArray) (a0_4 : Int) (r : Bool) (w : World) (h : logic_Is.f a0_0 a0_1 a0_2 a0_3 a0_4 = some r) :
  Calls Tryz.prog 78 #[.agg #[.int .i64 a0_0, .int .i64 a0_1, .int .i64 a0_2, .string a0_3, .int .i64 a0_4]] w fun e w' => e = .returned (.bool r) ∧ Below w.heap.size w w' := by
 have hu25 := Tryz.underlying25
 have HB := Aside0.mk (Below.refl w.heap.size w)
 have H : ((logic_Truth.f true).bind fun bt843 => (some (a0_0 == bt843.1 && ((a0_1 == bt843.2.1 && (a0_2 == bt843.2.2.1)) && (a0_3.toList == bt843.2.2.2.1.toList && (a0_4 == bt843.2.2.2.2)))))) = some r := h
 clear h
 replace H := Option.bind_eq_some_iff.mp H
 obtain ⟨⟨t843, t844, t845, t846, t847⟩, A20, H⟩ := H
 replace H : (some (a0_0 == t843 && ((a0_1 == t844 && (a0_2 == t845)) && (a0_3.toList == t846.toList && (a0_4 == t847))))) = some r := H
 have A2 := Aside0.mk A20
 clear A20
 obtain rfl := Option.some.inj H
 go_enter Tryz.func78, Tryz.ntmps78
 try go_wp2_with (first | ((with_reducible refine gate_dst (N := 1) rfl ?_); refine bev (#[.int .i64 a0_0, .int .i64 a0_1, .int .i64 a0_2, .string a0_3, .int .i64 a0_4]) 25 ?_; intro gb842 hg w3 hbox hb; have BK842 := Aside0.mk (hbox); have GW842 := gs hg HB; have GE842 := GW842; replace HB := sb HB hb; clear hb hbox hg))
 replace BK842 := Aside0.mk (blk_drew BK842.out)
 replace HB := Aside0.mk (below_drew1 HB.out)
 refine start_ (n := 4) (S := fun w' => w'.cell? ⟨gb842, 0, none⟩ = some (.int .i64 a0_0) ∧ w'.cell? ⟨gb842, 1, none⟩ = some (.int .i64 a0_1) ∧ w'.cell? ⟨gb842, 2, none⟩ = some (.int .i64 a0_2) ∧ w'.cell? ⟨gb842, 3, none⟩ = some (.string a0_3) ∧ w'.cell? ⟨gb842, 4, none⟩ = some (.int .i64 a0_4)) (ds := []) #[false, false, false, false] (by kernel_rfl) rfl rfl ⟨(blk_cell BK842.out 0).trans rfl, (blk_cell BK842.out 1).trans rfl, (blk_cell BK842.out 2).trans rfl, (blk_cell BK842.out 3).trans rfl, (blk_cell BK842.out 4).trans rfl⟩ (fun hHeld => ?_)
 generalize w3.drew = w4 at BK842 HB hHeld ⊢
 refine ta 0 (some 3) (bts 4 1) (by kernel_rfl) hHeld ?_
 refine one_ (i := 1) (N := some 4) (bts 4 3) rfl rfl (by kernel_rfl) (by decide) (fun K hK => ?_)
 refine goes_ Tryz.func59 (by kernel_rfl) rfl #[.bool true] (by rfl) rfl rfl lz ?_
 with_reducible refine (logic_Truth.calls true t843 t844 t845 t846 t847 _ A2.out).mono ?_
 rintro e w5 ⟨rfl, hb⟩
 refine ⟨_, rfl, ?_⟩
 replace BK842 := kb BK842 hb
 replace HB := sb HB hb
 (try clear hb)
 (try clear hb2)
 (try clear hk)
 (try clear hi)
 refine hK.out _ _ ⟨(blk_cell BK842.out 0).trans rfl, (blk_cell BK842.out 1).trans rfl, (blk_cell BK842.out 2).trans rfl, (blk_cell BK842.out 3).trans rfl, (blk_cell BK842.out 4).trans rfl⟩ (fun hHeld => ?_)
 clear hK K
 refine norm_ (a' := ?_) ?_ ?_
 rotate_left
 ·show Act.put _ (some 4) _ = _
  simp only [Act.put, List.setIfInBounds_toArray, List.set_cons_zero, List.set_cons_succ, i64_w, i32_w]
  rfl
 refine pu 2 (some 5) (bts 4 7) (by kernel_rfl) ?_
 refine pu 3 (some 2) (bts 4 15) (by kernel_rfl) ?_
 refine done_ (by kernel_rfl) ?_
 try go_wp2
 go_ret
 exact ⟨az, bz HB.out⟩
end Go.Proofs.YtgkemhgihbfmmaaGreatDoor.PA
end
section
namespace Go.Proofs.YtgkemhgihbfmmaaGreatDoor.PA
open Go.RowKit Go.Proofs.YtgkemhgihbfmmaaGreatDoorW.PrintWords Go.Proofs.YtgkemhgihbfmmaaGreatDoorW.PrintLast Go.Proofs.YtgkemhgihbfmmaaGreatDoorW.PrintMore
attribute [local go_sem] max2_int min2_int max_two min_two max_three min_three max_four min_four isSome_set str_gtr
set_option linter.unusedVariables false
set_option linter.unusedSimpArgs false
def deci_size.f (a0_0 : Int) (a0_1 : Int) : Option (Int) := some (IntKind.u64.wrap (mx a0_0 (wrap64 (-a0_0))))
set_option maxHeartbeats 8000000 in
set_option maxRecDepth 100000 in
theorem deci_size.calls (a0_0 : Int) (a0_1 : Int) (r : Int) (w : World) (h : deci_size.f a0_0 a0_1 = some r) :
  Calls Tryz.prog 93 #[.agg #[.int .i64 a0_0, .int .i64 a0_1]] w fun e w' => e = .returned (.int .u64 r) ∧ Below w.heap.size w w' := by
 have hu23 := Tryz.underlying23
 have HB := Aside0.mk (Below.refl w.heap.size w)
 have H : (some (IntKind.u64.wrap (mx a0_0 (wrap64 (-a0_0))))) = some r := h
 clear h
 obtain ⟨ji2, hji2⟩ : ∃ j_ : Int, (mx a0_0 (wrap64 (-a0_0))) = j_ := ⟨_, rfl⟩
 replace H : (some (IntKind.u64.wrap (ji2))) = some r := by first | (rw [hji2] at H; exact H) | (simp only [hji2] at H ⊢; exact H)
 have hji2_ : (if a0_0 < (wrap64 (-a0_0)) then (wrap64 (-a0_0)) else a0_0) = ji2 := hji2
 obtain rfl := Option.some.inj H
 go_enter Tryz.func93, Tryz.ntmps93
 go_wp2_with (first | ((with_reducible refine gate_dst (N := 1) rfl ?_); refine bev (#[.int .i64 a0_0, .int .i64 a0_1]) 23 ?_; intro gb848 hg w3 hbox hb; have BK848 := Aside0.mk (hbox); have GW848 := gs hg HB; have GE848 := GW848; replace HB := sb HB hb; clear hb hbox hg; obtain ⟨Z4_0, Z4_1, F4_0, F4_1⟩ := cz2 BK848.out))
 go_ret
 exact ⟨by first | rfl | (simp [errW_none, errW_some] <;> rfl) | (simp only [← hji2]; first | rfl | (simp [errW_none, errW_some] <;> rfl)) | (simp [*, errW_none, errW_some] <;> rfl), bz HB.out⟩
end Go.Proofs.YtgkemhgihbfmmaaGreatDoor.PA
end
section
namespace Go.Proofs.YtgkemhgihbfmmaaGreatDoor.PA
open Go.RowKit Go.Proofs.YtgkemhgihbfmmaaGreatDoorW.PrintWords Go.Proofs.YtgkemhgihbfmmaaGreatDoorW.PrintLast Go.Proofs.YtgkemhgihbfmmaaGreatDoorW.PrintMore
attribute [local go_sem] max2_int min2_int max_two min_two max_three min_three max_four min_four isSome_set str_gtr
set_option linter.unusedVariables false
set_option linter.unusedSimpArgs false
end Go.Proofs.YtgkemhgihbfmmaaGreatDoor.PA
end
section
namespace Go.Proofs.YtgkemhgihbfmmaaGreatDoor.PA
open Go.RowKit Go.Proofs.YtgkemhgihbfmmaaGreatDoorW.PrintWords Go.Proofs.YtgkemhgihbfmmaaGreatDoorW.PrintLast Go.Proofs.YtgkemhgihbfmmaaGreatDoorW.PrintMore
attribute [local go_sem] max2_int min2_int max_two min_two max_three min_three max_four min_four isSome_set str_gtr
set_option linter.unusedVariables false
set_option linter.unusedSimpArgs false
end Go.Proofs.YtgkemhgihbfmmaaGreatDoor.PA
end
section
namespace Go.Proofs.YtgkemhgihbfmmaaGreatDoor.PA
open Go.RowKit Go.Proofs.YtgkemhgihbfmmaaGreatDoorW.PrintWords Go.Proofs.YtgkemhgihbfmmaaGreatDoorW.PrintLast Go.Proofs.YtgkemhgihbfmmaaGreatDoorW.PrintMore
attribute [local go_sem] max2_int min2_int max_two min_two max_three min_three max_four min_four isSome_set str_gtr
set_option linter.unusedVariables false
set_option linter.unusedSimpArgs false
def bits_Div64.f (a0 : Int) (a1 : Int) (a2 : Int) : Option (Int × Int) := if a2 = 0 then (none) else (if a2 ≤ a0 then (none) else (if a0 = 0 then (some (IntKind.u64.wrap (Int.tdiv a1 a2), Int.tmod a1 a2)) else (none)))
set_option maxHeartbeats 8000000 in
set_option maxRecDepth 100000 in
theorem bits_Div64.calls (a0 : Int) (a1 : Int) (a2 : Int) (r1 : Int) (r2 : Int) (w : World) (h : bits_Div64.f a0 a1 a2 = some (r1, r2)) :
  Calls Tryz.prog 137 #[.int .u64 a0, .int .u64 a1, .int .u64 a2] w fun e w' => e = .returned (.tuple #[.int .u64 r1, .int .u64 r2]) ∧ Drawn0 w w' := by
 have H : (if a2 = 0 then (none) else (if a2 ≤ a0 then (none) else (if a0 = 0 then (some (IntKind.u64.wrap (Int.tdiv a1 a2), Int.tmod a1 a2)) else (none)))) = some (r1, r2) := h
 clear h
 by_cases c4 : a2 = 0
 ·rw [if_pos c4] at H
  exact absurd H (by simp)
 ·rw [if_neg c4] at H
  have c4b0 : (a2 == 0) = false := beq_eq_false_iff_ne.mpr c4
  have c4b1 : (a2 != 0) = true := bne_iff_ne.mpr c4
  by_cases c5 : a2 ≤ a0
  ·rw [if_pos c5] at H
   exact absurd H (by simp)
  ·rw [if_neg c5] at H
   have c5b0 : decide (a2 ≤ a0) = false := decide_eq_false c5
   clear c5
   by_cases c6 : a0 = 0
   ·rw [if_pos c6] at H
    have c6b0 : (a0 == 0) = true := beq_iff_eq.mpr c6
    have c6b1 : (a0 != 0) = false := bne_eq_false_iff_eq.mpr c6
    clear c6
    simp only [Option.some.injEq, Prod.mk.injEq] at H
    obtain ⟨rfl, rfl⟩ := H
    go_enter Tryz.func137, Tryz.ntmps137
    go_wp2
    repeat (go_quiet (fail); try go_wp2)
    go_ret2
    exact ⟨sz, dz⟩
   ·rw [if_neg c6] at H
    exact absurd H (by simp)
end Go.Proofs.YtgkemhgihbfmmaaGreatDoor.PA
end
section
namespace Go.Proofs.YtgkemhgihbfmmaaGreatDoor.PA
open Go.RowKit Go.Proofs.YtgkemhgihbfmmaaGreatDoorW.PrintWords Go.Proofs.YtgkemhgihbfmmaaGreatDoorW.PrintLast Go.Proofs.YtgkemhgihbfmmaaGreatDoorW.PrintMore
attribute [local go_sem] max2_int min2_int max_two min_two max_three min_three max_four min_four isSome_set str_gtr
set_option linter.unusedVariables false
set_option linter.unusedSimpArgs false
def deci_even.j0 : Nat → Int → Bool → Option (Int × Bool)
 | 0, _, _ => none
 | k + 1, x8, x36 => if x36 = true then (none) else (some (x8, true))
def deci_even.f (k : Nat) (a0 : Int) (a1 : Int) (a2 : Int) : Option (Int × Bool) := if a0 ≥ a2 then (none) else ((bits_Div64.f a0 a1 a2).bind fun bt849 => (if bt849.2 > (IntKind.u64.wrap (a2 - bt849.2)) then (deci_even.j0 k bt849.1 true) else (if bt849.2 = (IntKind.u64.wrap (a2 - bt849.2)) then (deci_even.j0 k bt849.1 ((Int.tmod bt849.1 2) == 1)) else (deci_even.j0 k bt849.1 false))))
theorem deci_even.mono_l : ∀ k, (∀ y0 y1, LeO (deci_even.j0 k y0 y1) (deci_even.j0 (k + 1) y0 y1))
 | 0 => fun _ _ r h => by simp [deci_even.j0] at h
 | k + 1 => by
  have ih0 := deci_even.mono_l k
  ·intro y0 y1
   unfold deci_even.j0
   exact lmo
theorem deci_even.mono : ∀ a0 a1 a2 k, LeO (deci_even.f k a0 a1 a2) (deci_even.f (k + 1) a0 a1 a2) := by
 intro a0 a1 a2 k
 have ih0 := deci_even.mono_l k
 unfold deci_even.f
 exact lmo
set_option maxHeartbeats 8000000 in
set_option maxRecDepth 100000 in
theorem deci_even.calls (k : Nat) (a0 : Int) (a1 : Int) (a2 : Int) (r1 : Int) (r2 : Bool) (w : World) (h : deci_even.f k a0 a1 a2 = some (r1, r2)) :
  Calls Tryz.prog 96 #[.int .u64 a0, .int .u64 a1, .int .u64 a2] w fun e w' => e = .returned (.tuple #[.int .u64 r1, .bool r2]) ∧ Drawn0 w w' := by
 have H : (if a0 ≥ a2 then (none) else ((bits_Div64.f a0 a1 a2).bind fun bt849 => (if bt849.2 > (IntKind.u64.wrap (a2 - bt849.2)) then (deci_even.j0 k bt849.1 true) else (if bt849.2 = (IntKind.u64.wrap (a2 - bt849.2)) then (deci_even.j0 k bt849.1 ((Int.tmod bt849.1 2) == 1)) else (deci_even.j0 k bt849.1 false))))) = some (r1, r2) := h
 clear h
 by_cases c4 : a0 ≥ a2
 ·rw [if_pos c4] at H
  exact absurd H (by simp)
 ·rw [if_neg c4] at H
  have c4b0 : decide (a2 ≤ a0) = false := decide_eq_false c4
  clear c4
  replace H := Option.bind_eq_some_iff.mp H
  obtain ⟨⟨t849, t850⟩, A50, H⟩ := H
  replace H : (if t850 > (IntKind.u64.wrap (a2 - t850)) then (deci_even.j0 k t849 true) else (if t850 = (IntKind.u64.wrap (a2 - t850)) then (deci_even.j0 k t849 ((Int.tmod t849 2) == 1)) else (deci_even.j0 k t849 false))) = some (r1, r2) := H
  have A5 := Aside0.mk A50
  clear A50
  have HC6 := Aside0.mk H
  clear H
  go_enter Tryz.func96, Tryz.ntmps96
  go_upto_region 5 with (first | ((with_reducible refine gate_callee (f := 137) rfl ?_); refine gl_ (some 18) Tryz.func137 (by kernel_rfl) #[.int .u64 a0, .int .u64 a1, .int .u64 a2] rfl ?_; (with_reducible refine (bits_Div64.calls a0 a1 a2 t849 t850 _ A5.out).mono ?_); rintro e w' ⟨rfl, ⟨nd, rfl⟩⟩; refine ⟨_, rfl, ?_⟩))
  (try simp only [Act.put, List.setIfInBounds_toArray, List.set_cons_zero, List.set_cons_succ])
  go_cut [36] (fun v36 wc => ∃ (kq : Nat) (x36_5 : Bool), v36 = .bool x36_5 ∧ Aside0 (deci_even.j0 kq t849 x36_5 = some (r1, r2)) ∧ Aside0 (kq ≤ k) ∧ Drawn0 w wc)
  case first =>
   have H := HC6.out
   clear HC6
   by_cases c7 : t850 > (IntKind.u64.wrap (a2 - t850))
   ·rw [if_pos c7] at H
    have c7b0 : decide ((IntKind.u64.wrap (a2 - t850)) < t850) = true := decide_eq_true c7
    clear c7
    (first | rw [c7b0] | (simp only [i64_w, i32_w]; rw [c7b0]) | skip)
    have H' := Aside0.mk H
    clear H
    go_wp2
    go_meet
    case rel => exact ⟨_, (true), sz, H', ⟨oz⟩, dz⟩
   ·rw [if_neg c7] at H
    have c7b0 : decide ((IntKind.u64.wrap (a2 - t850)) < t850) = false := decide_eq_false c7
    clear c7
    (first | rw [c7b0] | (simp only [i64_w, i32_w]; rw [c7b0]) | skip)
    by_cases c8 : t850 = (IntKind.u64.wrap (a2 - t850))
    ·rw [if_pos c8] at H
     have c8b0 : (t850 == (IntKind.u64.wrap (a2 - t850))) = true := beq_iff_eq.mpr c8
     have c8b1 : (t850 != (IntKind.u64.wrap (a2 - t850))) = false := bne_eq_false_iff_eq.mpr c8
     clear c8
     have H' := Aside0.mk H
     clear H
     go_wp2
     go_meet
     case rel => exact ⟨_, (((Int.tmod t849 2) == 1)), sz, H', ⟨oz⟩, dz⟩
    ·rw [if_neg c8] at H
     have c8b0 : (t850 == (IntKind.u64.wrap (a2 - t850))) = false := beq_eq_false_iff_ne.mpr c8
     have c8b1 : (t850 != (IntKind.u64.wrap (a2 - t850))) = true := bne_iff_ne.mpr c8
     have H' := Aside0.mk H
     clear H
     go_wp2
     go_meet
     case rel => exact ⟨_, (false), sz, H', ⟨oz⟩, dz⟩
  case rest =>
   clear HC6
   try clear c1; try clear p2; try clear c4; try clear c4b0; try clear c7; try clear c7b0; try clear c8; try clear c8b0; try clear c8b1
   obtain ⟨kq, x36_5, rfl, HA, HJ5, ⟨mc5, rfl⟩⟩ := hcut
   cases kq with
   | zero => exact absurd HA.out (by simp [deci_even.j0])
   | succ kj5 =>
    have H := HA.out
    clear HA
    simp only [deci_even.j0] at H
    by_cases c9 : x36_5 = true
    ·subst c9
     have H1 : (none) = some (r1, r2) := by rw [if_pos rfl] at H; exact H
     clear H
     have H := H1
     clear H1
     exact absurd H (by simp)
    ·replace c9 := Bool.eq_false_iff.mpr c9
     subst c9
     have H1 : (some (t849, true)) = some (r1, r2) := by rw [if_neg (show ¬ (false = true) by decide)] at H; exact H
     clear H
     have H := H1
     clear H1
     simp only [Option.some.injEq, Prod.mk.injEq] at H
     obtain ⟨rfl, rfl⟩ := H
     go_wp2
     go_ret2
     exact ⟨sz, dz⟩
end Go.Proofs.YtgkemhgihbfmmaaGreatDoor.PA
end
section
namespace Go.Proofs.YtgkemhgihbfmmaaGreatDoor.PA
open Go.RowKit Go.Proofs.YtgkemhgihbfmmaaGreatDoorW.PrintWords Go.Proofs.YtgkemhgihbfmmaaGreatDoorW.PrintLast Go.Proofs.YtgkemhgihbfmmaaGreatDoorW.PrintMore
attribute [local go_sem] max2_int min2_int max_two min_two max_three min_three max_four min_four isSome_set str_gtr
set_option linter.unusedVariables false
set_option linter.unusedSimpArgs false
def deci_Mul.f (k : Nat) (a0_0 : Int) (a0_1 : Int) (a1_0 : Int) (a1_1 : Int) : Option (Int × Int × Int) := (deci_all.f k (([(⟨a0_0, a0_1⟩ : S23), (⟨a1_0, a1_1⟩ : S23)] : List (S23)))).bind fun t857 => (if t857 = 0 then ((deci_size.f a0_0 a0_1).bind fun t858 => ((deci_size.f a1_0 a1_1).bind fun t859 => ((bits_Mul64.f t858 t859).bind fun bt860 => ((deci_power.f k (mx 0 (wrap64 ((wrap64 (a0_1 + a1_1)) - 6)))).bind fun t862 => ((deci_even.f k bt860.1 bt860.2 t862).bind fun bt863 => (if bt863.2 = true then ((deci_form_dec.f k bt863.1 (mn (wrap64 (a0_1 + a1_1)) 6) ((decide (a0_0 < 0)) != (decide (a1_0 < 0)))).bind fun bt865 => (some (bt865.1, bt865.2.1, bt865.2.2))) else (none))))))) else (none))
theorem deci_Mul.mono : ∀ a0 a1 a2 a3 k, LeO (deci_Mul.f k a0 a1 a2 a3) (deci_Mul.f (k + 1) a0 a1 a2 a3) := by
 intro a0 a1 a2 a3 k
 unfold deci_Mul.f
 have q0 := @deci_all.mono; have q1 := @deci_even.mono; have q2 := @deci_form_dec.mono; have q3 := @deci_power.mono; exact lmo
def deci_Mul.T4 : Bool × List (List Nat × List Nat) := (true, [([], []), ([0], [0]), ([], []), ([2, 1], [2]), ([1, 3, 3], [1, 3]), ([4], [4]), ([5], [5]), ([5], [5]), ([6, 4, 0, 1, 2, 3, 4, 5, 6], [6]), ([7, 8, 0, 1, 2, 3, 4, 5, 6, 7, 8], [7])])
def deci_Mul.B4 : List Nat := [0, 1, 0, 7, 15, 31, 63, 63, 127, 511]
theorem deci_Mul.tab4 : rtab .any (opsOf Tryz.f119 4) = deci_Mul.T4 := by kernel_rfl
theorem deci_Mul.bits4 : waitsOk deci_Mul.T4.2 deci_Mul.B4 = true := by kernel_rfl
set_option maxHeartbeats 8000000 in
set_option maxRecDepth 100000 in
theorem deci_Mul.calls (k : Nat) (a0_0 : Int) (a0_1 : Int) (a1_0 : Int) (a1_1 : Int) (r1 : Int) (r2 : Int) (r3 : Int) (w : World) (h : deci_Mul.f k a0_0 a0_1 a1_0 a1_1 = some (r1, r2, r3)) :
  Calls Tryz.prog 119 #[.agg #[.int .i64 a0_0, .int .i64 a0_1], .agg #[.int .i64 a1_0, .int .i64 a1_1]] w fun e w' => e = .returned (.tuple #[.agg #[.int .i64 r1, .int .i64 r2], .int .i64 r3]) ∧ Below w.heap.size w w' := by
 have hu23 := Tryz.underlying23
 have hu77 := Tryz.underlying77
 have HB := Aside0.mk (Below.refl w.heap.size w)
 have H : ((deci_all.f k (([(⟨a0_0, a0_1⟩ : S23), (⟨a1_0, a1_1⟩ : S23)] : List (S23)))).bind fun t857 => (if t857 = 0 then ((deci_size.f a0_0 a0_1).bind fun t858 => ((deci_size.f a1_0 a1_1).bind fun t859 => ((bits_Mul64.f t858 t859).bind fun bt860 => ((deci_power.f k (mx 0 (wrap64 ((wrap64 (a0_1 + a1_1)) - 6)))).bind fun t862 => ((deci_even.f k bt860.1 bt860.2 t862).bind fun bt863 => (if bt863.2 = true then ((deci_form_dec.f k bt863.1 (mn (wrap64 (a0_1 + a1_1)) 6) ((decide (a0_0 < 0)) != (decide (a1_0 < 0)))).bind fun bt865 => (some (bt865.1, bt865.2.1, bt865.2.2))) else (none))))))) else (none))) = some (r1, r2, r3) := h
 clear h
 obtain ⟨y854, hy854⟩ : ∃ y_ : List (S23), y_ = (([(⟨a0_0, a0_1⟩ : S23), (⟨a1_0, a1_1⟩ : S23)] : List (S23))) := ⟨_, rfl⟩
 replace H : ((deci_all.f k y854).bind fun t857 => (if t857 = 0 then ((deci_size.f a0_0 a0_1).bind fun t858 => ((deci_size.f a1_0 a1_1).bind fun t859 => ((bits_Mul64.f t858 t859).bind fun bt860 => ((deci_power.f k (mx 0 (wrap64 ((wrap64 (a0_1 + a1_1)) - 6)))).bind fun t862 => ((deci_even.f k bt860.1 bt860.2 t862).bind fun bt863 => (if bt863.2 = true then ((deci_form_dec.f k bt863.1 (mn (wrap64 (a0_1 + a1_1)) 6) ((decide (a0_0 < 0)) != (decide (a1_0 < 0)))).bind fun bt865 => (some (bt865.1, bt865.2.1, bt865.2.2))) else (none))))))) else (none))) = some (r1, r2, r3) := by first | (rw [hy854]; with_reducible exact H) | (have H2_ := (Option.bind_some _ _).symm.trans H; rw [hy854]; with_reducible exact H2_) | (have H2_ := (Option.bind_some _ _).symm.trans H; with_reducible exact H2_) | with_reducible exact H | (rw [hy854]; exact H) | exact H
 have Ny854 := Aside0.mk hy854
 clear hy854
 replace H := Option.bind_eq_some_iff.mp H
 obtain ⟨t857, A30, H⟩ := H
 replace H : (if t857 = 0 then ((deci_size.f a0_0 a0_1).bind fun t858 => ((deci_size.f a1_0 a1_1).bind fun t859 => ((bits_Mul64.f t858 t859).bind fun bt860 => ((deci_power.f k (mx 0 (wrap64 ((wrap64 (a0_1 + a1_1)) - 6)))).bind fun t862 => ((deci_even.f k bt860.1 bt860.2 t862).bind fun bt863 => (if bt863.2 = true then ((deci_form_dec.f k bt863.1 (mn (wrap64 (a0_1 + a1_1)) 6) ((decide (a0_0 < 0)) != (decide (a1_0 < 0)))).bind fun bt865 => (some (bt865.1, bt865.2.1, bt865.2.2))) else (none))))))) else (none)) = some (r1, r2, r3) := H
 have A3 := Aside0.mk A30
 clear A30
 by_cases c4 : t857 = 0
 ·rw [if_pos c4] at H
  have c4b0 : (t857 == 0) = true := beq_iff_eq.mpr c4
  have c4b1 : (t857 != 0) = false := bne_eq_false_iff_eq.mpr c4
  clear c4
  replace H := Option.bind_eq_some_iff.mp H
  obtain ⟨t858, A50, H⟩ := H
  replace H : ((deci_size.f a1_0 a1_1).bind fun t859 => ((bits_Mul64.f t858 t859).bind fun bt860 => ((deci_power.f k (mx 0 (wrap64 ((wrap64 (a0_1 + a1_1)) - 6)))).bind fun t862 => ((deci_even.f k bt860.1 bt860.2 t862).bind fun bt863 => (if bt863.2 = true then ((deci_form_dec.f k bt863.1 (mn (wrap64 (a0_1 + a1_1)) 6) ((decide (a0_0 < 0)) != (decide (a1_0 < 0)))).bind fun bt865 => (some (bt865.1, bt865.2.1, bt865.2.2))) else (none)))))) = some (r1, r2, r3) := H
  have A5 := Aside0.mk A50
  clear A50
  replace H := Option.bind_eq_some_iff.mp H
  obtain ⟨t859, A60, H⟩ := H
  replace H : ((bits_Mul64.f t858 t859).bind fun bt860 => ((deci_power.f k (mx 0 (wrap64 ((wrap64 (a0_1 + a1_1)) - 6)))).bind fun t862 => ((deci_even.f k bt860.1 bt860.2 t862).bind fun bt863 => (if bt863.2 = true then ((deci_form_dec.f k bt863.1 (mn (wrap64 (a0_1 + a1_1)) 6) ((decide (a0_0 < 0)) != (decide (a1_0 < 0)))).bind fun bt865 => (some (bt865.1, bt865.2.1, bt865.2.2))) else (none))))) = some (r1, r2, r3) := H
  have A6 := Aside0.mk A60
  clear A60
  replace H := Option.bind_eq_some_iff.mp H
  obtain ⟨⟨t860, t861⟩, A70, H⟩ := H
  replace H : ((deci_power.f k (mx 0 (wrap64 ((wrap64 (a0_1 + a1_1)) - 6)))).bind fun t862 => ((deci_even.f k t860 t861 t862).bind fun bt863 => (if bt863.2 = true then ((deci_form_dec.f k bt863.1 (mn (wrap64 (a0_1 + a1_1)) 6) ((decide (a0_0 < 0)) != (decide (a1_0 < 0)))).bind fun bt865 => (some (bt865.1, bt865.2.1, bt865.2.2))) else (none)))) = some (r1, r2, r3) := H
  have A7 := Aside0.mk A70
  clear A70
  obtain ⟨ji8, hji8⟩ : ∃ j_ : Int, (mx 0 (wrap64 ((wrap64 (a0_1 + a1_1)) - 6))) = j_ := ⟨_, rfl⟩
  replace H : ((deci_power.f k (ji8)).bind fun t862 => ((deci_even.f k t860 t861 t862).bind fun bt863 => (if bt863.2 = true then ((deci_form_dec.f k bt863.1 (mn (wrap64 (a0_1 + a1_1)) 6) ((decide (a0_0 < 0)) != (decide (a1_0 < 0)))).bind fun bt865 => (some (bt865.1, bt865.2.1, bt865.2.2))) else (none)))) = some (r1, r2, r3) := by first | (rw [hji8] at H; exact H) | (simp only [hji8] at H ⊢; exact H)
  (try rw [hji8] at A3)
  (try rw [hji8] at A5)
  (try rw [hji8] at A6)
  (try rw [hji8] at A7)
  (try (have hji8l : 0 ≤ ji8 := by (rw [← hji8]; unfold mx; (repeat' split) <;> omega)))
  (try (have hji8m : 0 ≤ ji8 := by omega))
  have hji8_ : (if 0 < (wrap64 ((wrap64 (a0_1 + a1_1)) - 6)) then (wrap64 ((wrap64 (a0_1 + a1_1)) - 6)) else 0) = ji8 := hji8
  replace H := Option.bind_eq_some_iff.mp H
  obtain ⟨t862, A90, H⟩ := H
  replace H : ((deci_even.f k t860 t861 t862).bind fun bt863 => (if bt863.2 = true then ((deci_form_dec.f k bt863.1 (mn (wrap64 (a0_1 + a1_1)) 6) ((decide (a0_0 < 0)) != (decide (a1_0 < 0)))).bind fun bt865 => (some (bt865.1, bt865.2.1, bt865.2.2))) else (none))) = some (r1, r2, r3) := H
  have A9 := Aside0.mk A90
  clear A90
  replace H := Option.bind_eq_some_iff.mp H
  obtain ⟨⟨t863, t864⟩, A100, H⟩ := H
  replace H : (if t864 = true then ((deci_form_dec.f k t863 (mn (wrap64 (a0_1 + a1_1)) 6) ((decide (a0_0 < 0)) != (decide (a1_0 < 0)))).bind fun bt865 => (some (bt865.1, bt865.2.1, bt865.2.2))) else (none)) = some (r1, r2, r3) := H
  have A10 := Aside0.mk A100
  clear A100
  by_cases c11 : t864 = true
  ·subst c11
   have H1 : ((deci_form_dec.f k t863 (mn (wrap64 (a0_1 + a1_1)) 6) ((decide (a0_0 < 0)) != (decide (a1_0 < 0)))).bind fun bt865 => (some (bt865.1, bt865.2.1, bt865.2.2))) = some (r1, r2, r3) := by rw [if_pos rfl] at H; exact H
   clear H
   have H := H1
   clear H1
   obtain ⟨ji12, hji12⟩ : ∃ j_ : Int, (mn (wrap64 (a0_1 + a1_1)) 6) = j_ := ⟨_, rfl⟩
   replace H : ((deci_form_dec.f k t863 (ji12) ((decide (a0_0 < 0)) != (decide (a1_0 < 0)))).bind fun bt865 => (some (bt865.1, bt865.2.1, bt865.2.2))) = some (r1, r2, r3) := by first | (rw [hji12] at H; exact H) | (simp only [hji12] at H ⊢; exact H)
   (try rw [hji12] at A3)
   (try rw [hji12] at A5)
   (try rw [hji12] at A6)
   (try rw [hji12] at A7)
   (try rw [hji12] at A9)
   (try rw [hji12] at A10)
   (try (have hji12h : ji12 ≤ 6 := by (rw [← hji12]; unfold mn; (repeat' split) <;> omega)))
   (try (have hji12g : ji12 ≤ 64 := by omega))
   have hji12_ : (if 6 < (wrap64 (a0_1 + a1_1)) then 6 else (wrap64 (a0_1 + a1_1))) = ji12 := hji12
   replace H := Option.bind_eq_some_iff.mp H
   obtain ⟨⟨t865, t866, t867⟩, A130, H⟩ := H
   replace H : (some (t865, t866, t867)) = some (r1, r2, r3) := H
   have A13 := Aside0.mk A130
   clear A130
   simp only [Option.some.injEq, Prod.mk.injEq] at H
   obtain ⟨rfl, rfl, rfl⟩ := H
   go_enter Tryz.func119, Tryz.ntmps119
   try go_wp2_with (first | ((with_reducible refine gate_dst (N := 2) rfl ?_); refine bev (#[.int .i64 a0_0, .int .i64 a0_1]) 23 ?_; intro gb851 hg w14 hbox hb; have BK851 := Aside0.mk (hbox); have GW851 := gs hg HB; have GE851 := GW851; replace HB := sb HB hb; clear hb hbox hg) | ((with_reducible refine gate_dst (N := 3) rfl ?_); refine bev (#[.int .i64 a1_0, .int .i64 a1_1]) 23 ?_; intro gb852 hg w15 hbox hb; have BK852 := Aside0.mk (hbox); have GW852 := gs hg HB; have GE852 := GW852; replace HB := sb HB hb; have NB851_852 := na hg BK851; have NB852_851 := nb hg BK851; replace BK851 := kb BK851 hb; clear hb hbox hg) | ((with_reducible refine gate_dst (N := 4) rfl ?_); refine bev (#[.int .i64 0, .int .i64 0]) 23 ?_; intro gb853 hg w16 hbox hb; have BK853 := Aside0.mk (hbox); have GW853 := gs hg HB; have GE853 := GW853; replace HB := sb HB hb; have NB851_853 := na hg BK851; have NB853_851 := nb hg BK851; replace BK851 := kb BK851 hb; have NB852_853 := na hg BK852; have NB853_852 := nb hg BK852; replace BK852 := kb BK852 hb; clear hb hbox hg; have hnb17 := NB851_852.out; have hnc17 := NB852_851.out; have hnb18 := NB851_853.out; have hnc18 := NB853_851.out; obtain ⟨Z19_0, Z19_1, F19_0, F19_1⟩ := cz2 BK851.out; have hnb20 := NB852_853.out; have hnc20 := NB853_852.out; obtain ⟨Z21_0, Z21_1, F21_0, F21_1⟩ := cz2 BK852.out) | ((with_reducible refine gate_dst (N := 14) rfl ?_); refine rlit k23 23 ([(⟨a0_0, a0_1⟩ : S23), (⟨a1_0, a1_1⟩ : S23)] : List (S23)) [.int .i64 a0_0, .int .i64 a0_1, .int .i64 a1_0, .int .i64 a1_1] ?_ (Below.refl _ _) (Nat.le_refl _) (Reps.c2 (show Kd.M k23 _ _ _ (⟨a0_0, a0_1⟩ : S23) [.int .i64 a0_0, .int .i64 a0_1] from (k23_mkM _ _ _ (⟨a0_0, a0_1⟩ : S23) )) (Reps.c2 (show Kd.M k23 _ _ _ (⟨a1_0, a1_1⟩ : S23) [.int .i64 a1_0, .int .i64 a1_1] from (k23_mkM _ _ _ (⟨a1_0, a1_1⟩ : S23) )) (Reps.none _ _))); intro v855 w22 ho23 hb hg_ hnew_; clear hg_ hnew_; (first | rw [← Ny854.out] at ho23 | (simp only [Int.reduceToNat] at ho23; rw [← Ny854.out] at ho23)); have HO856 := Aside0.mk (Kd.R_lower (Kd.R_newB (Kd.R_newB (Kd.R_newB ho23 (bk BK851.out)) (bk BK852.out)) (bk BK853.out)) (below_size (bz HB.out))); replace BK851 := kb BK851 hb; replace BK852 := kb BK852 hb; replace BK853 := kb BK853 hb; replace HB := sb HB hb; clear hb ho23; obtain ⟨Ao24, co24, eo24⟩ := Kd.R_slice HO856.out; subst eo24) | ((with_reducible refine gate_callee (f := 43) rfl ?_); refine gl_ (some 15) Tryz.func43 (by kernel_rfl) #[.slice Ao24 y854.length co24] rfl ?_; (with_reducible refine (deci_all.calls k _ _ y854 t857 _ ?side1 ?side2 A3.out).mono ?_); (case side1 => repeat (first | exact (Kd.R_reads' HO856.out).2.2 | (with_reducible refine Kd.C_alloc ?_ _) | (with_reducible refine Kd.C_drewN ?_ _) | (with_reducible refine Kd.C_drew ?_))); (case side2 => exact (Kd.R_reads' HO856.out).2.1); rintro e w25 ⟨rfl, hb⟩; refine ⟨_, rfl, ?_⟩; replace HO856 := Aside0.mk (Kd.R_below (rr HO856.out) hb); replace BK851 := kb BK851 hb; replace BK852 := kb BK852 hb; replace BK853 := kb BK853 hb; replace HB := sb HB hb; clear hb))
   replace HO856 := Aside0.mk (Kd.R_drew HO856.out)
   replace BK851 := Aside0.mk (blk_drew BK851.out)
   replace BK852 := Aside0.mk (blk_drew BK852.out)
   replace BK853 := Aside0.mk (blk_drew BK853.out)
   replace HB := Aside0.mk (below_drew1 HB.out)
   refine start_ (n := 10) (S := fun w' => w'.cell? ⟨gb851, 0, none⟩ = some (.int .i64 a0_0) ∧ w'.cell? ⟨gb851, 1, none⟩ = some (.int .i64 a0_1) ∧ w'.cell? ⟨gb852, 0, none⟩ = some (.int .i64 a1_0) ∧ w'.cell? ⟨gb852, 1, none⟩ = some (.int .i64 a1_1)) (ds := []) (bts0 10) (by kernel_rfl) rfl rfl ⟨(blk_cell BK851.out 0).trans rfl, (blk_cell BK851.out 1).trans rfl, (blk_cell BK852.out 0).trans rfl, (blk_cell BK852.out 1).trans rfl⟩ (fun hHeld => ?_); refine with_tabW deci_Mul.tab4 deci_Mul.bits4 (fun HT_ HW_ => ?_)
   generalize w25.drew = w26 at HO856 BK851 BK852 BK853 HB hHeld ⊢
   refine ta 0 (some 21) (bts 10 1) (take_ofW HT_.out HW_.out (by kernel_rfl)) hHeld ?_
   refine ta 2 (some 23) (bts 10 5) (take_ofW HT_.out HW_.out (by kernel_rfl)) hHeld ?_
   refine one_ (i := 1) (N := some 22) (bts 10 7) rfl rfl (one_of HT_.out (by kernel_rfl)) (by decide) (fun K hK => ?_)
   refine goes_ Tryz.func93 (by kernel_rfl) rfl #[.agg #[.int .i64 a0_0, .int .i64 a0_1]] (by rfl) rfl rfl lz ?_
   with_reducible refine (deci_size.calls a0_0 a0_1 t858 _ A5.out).mono ?_
   rintro e w27 ⟨rfl, hb⟩
   refine ⟨_, rfl, ?_⟩
   replace HO856 := Aside0.mk (Kd.R_below (rr HO856.out) hb)
   replace BK851 := kb BK851 hb
   replace BK852 := kb BK852 hb
   replace BK853 := kb BK853 hb
   replace HB := sb HB hb
   (try clear hb)
   (try clear hb2)
   (try clear hk)
   (try clear hi)
   refine hK.out _ _ ⟨(blk_cell BK851.out 0).trans rfl, (blk_cell BK851.out 1).trans rfl, (blk_cell BK852.out 0).trans rfl, (blk_cell BK852.out 1).trans rfl⟩ (fun hHeld => ?_)
   clear hK K
   refine norm_ (a' := ?_) ?_ ?_
   rotate_left
   ·show Act.put _ (some 22) _ = _
    simp only [Act.put, List.setIfInBounds_toArray, List.set_cons_zero, List.set_cons_succ, i64_w, i32_w]
    rfl
   refine one_ (i := 3) (N := some 24) (bts 10 15) rfl rfl (one_of HT_.out (by kernel_rfl)) (by decide) (fun K hK => ?_)
   refine goes_ Tryz.func93 (by kernel_rfl) rfl #[.agg #[.int .i64 a1_0, .int .i64 a1_1]] (by rfl) rfl rfl lz ?_
   with_reducible refine (deci_size.calls a1_0 a1_1 t859 _ A6.out).mono ?_
   rintro e w28 ⟨rfl, hb⟩
   refine ⟨_, rfl, ?_⟩
   replace HO856 := Aside0.mk (Kd.R_below (rr HO856.out) hb)
   replace BK851 := kb BK851 hb
   replace BK852 := kb BK852 hb
   replace BK853 := kb BK853 hb
   replace HB := sb HB hb
   (try clear hb)
   (try clear hb2)
   (try clear hk)
   (try clear hi)
   refine hK.out _ _ ⟨(blk_cell BK851.out 0).trans rfl, (blk_cell BK851.out 1).trans rfl, (blk_cell BK852.out 0).trans rfl, (blk_cell BK852.out 1).trans rfl⟩ (fun hHeld => ?_)
   clear hK K
   refine norm_ (a' := ?_) ?_ ?_
   rotate_left
   ·show Act.put _ (some 24) _ = _
    simp only [Act.put, List.setIfInBounds_toArray, List.set_cons_zero, List.set_cons_succ, i64_w, i32_w]
    rfl
   refine one_ (i := 4) (N := some 25) (bts 10 31) rfl rfl (one_of HT_.out (by kernel_rfl)) (by decide) (fun K hK => ?_)
   refine goes_ Tryz.func95 (by kernel_rfl) rfl #[.int .u64 t858, .int .u64 t859] (by rfl) rfl rfl lz ?_
   with_reducible refine (bits_Mul64.calls t858 t859 t860 t861 _ A7.out).mono ?_
   rintro e w' ⟨rfl, ⟨nd, rfl⟩⟩
   refine ⟨_, rfl, ?_⟩
   refine hK.out _ _ ⟨(blk_cell BK851.out 0).trans rfl, (blk_cell BK851.out 1).trans rfl, (blk_cell BK852.out 0).trans rfl, (blk_cell BK852.out 1).trans rfl⟩ (fun hHeld => ?_)
   clear hK K
   refine norm_ (a' := ?_) ?_ ?_
   rotate_left
   ·show Act.put _ (some 25) _ = _
    simp only [Act.put, List.setIfInBounds_toArray, List.set_cons_zero, List.set_cons_succ, i64_w, i32_w]
    rfl
   refine pu 5 (some 20) (bts 10 63) (any_of HT_.out (by kernel_rfl)) ?_
   refine pu 6 (some 26) (bts 10 127) (any_of HT_.out (by kernel_rfl)) ?_
   refine pu 7 (some 27) (bts 10 255) (any_of HT_.out (by kernel_rfl)) ?_
   refine pu 8 (some 7) (bts 10 511) (any_of HT_.out (by kernel_rfl)) ?_
   refine pu 9 (some 8) (bts 10 1023) (any_of HT_.out (by kernel_rfl)) ?_
   refine done_ (done_of HT_.out (by kernel_rfl)) ?_
   obtain ⟨Z29_0, Z29_1, F29_0, F29_1⟩ := cz2 BK851.out
   obtain ⟨Z30_0, Z30_1, F30_0, F30_1⟩ := cz2 BK852.out
   try go_wp2_with (first | ((with_reducible refine gate_callee (f := 83) rfl ?_); refine goesL_ (some 39) rfl rfl Tryz.func83 (by kernel_rfl) rfl #[.int .i64 ji8] rfl (by (try simp only [List.map_toArray, List.map_cons, List.map_nil]); first | done | (simp only [hji8]; rfl) | rfl | (simp only [List.length_drop, List.length_take]; rfl)) ?_; (with_reducible refine (deci_power.calls k ji8 t862 _ A9.out).mono ?_); rintro e w' ⟨rfl, ⟨nd, rfl⟩⟩; refine ⟨_, rfl, ?_⟩; (try (rw [drewN_self w28]; generalize hq_ : World.drewN w28 _ = w28; have n0_ : Aside0 (Kd.R k23 23 w28 w.heap.size (fun k_ => k_ ≠ gb851 ∧ k_ ≠ gb852 ∧ k_ ≠ gb853) (.slice Ao24 y854.length co24) y854) := ⟨by rw [← hq_]; exact (by (with_reducible repeat (first | apply Kd.R_alloc | apply Kd.R_drewN | apply Kd.R_drew)); exact Kd.R_mono HO856.out (fun _ hk => ⟨hk.1.1.2, ⟨hk.1.2, hk.2⟩⟩))⟩; have n1_ : Aside0 (w28.heap[gb851]? = some (.cells #[.int .i64 a0_0, .int .i64 a0_1] 23 (0, 0))) := ⟨by rw [← hq_]; exact (bk BK851.out)⟩; have n2_ : Aside0 (w28.heap[gb852]? = some (.cells #[.int .i64 a1_0, .int .i64 a1_1] 23 (0, 0))) := ⟨by rw [← hq_]; exact (bk BK852.out)⟩; have n3_ : Aside0 (w28.heap[gb853]? = some (.cells #[.int .i64 0, .int .i64 0] 23 (0, 0))) := ⟨by rw [← hq_]; exact (bk BK853.out)⟩; have n4_ : Aside0 (Below w.heap.size w w28) := ⟨by rw [← hq_]; exact (bz HB.out)⟩; clear HO856 BK851 BK852 BK853 HB hq_; have HO856 := n0_; have BK851 := n1_; have BK852 := n2_; have BK853 := n3_; have HB := n4_; clear n0_ n1_ n2_ n3_ n4_)); (try (have hcu851_0 : w28.cell? ⟨gb851, 0, none⟩ = some (.int .i64 a0_0) := (blk_cell BK851.out 0).trans rfl)); (try (have hcu851_1 : w28.cell? ⟨gb851, 1, none⟩ = some (.int .i64 a0_1) := (blk_cell BK851.out 1).trans rfl)); (try (have hcu852_0 : w28.cell? ⟨gb852, 0, none⟩ = some (.int .i64 a1_0) := (blk_cell BK852.out 0).trans rfl)); (try (have hcu852_1 : w28.cell? ⟨gb852, 1, none⟩ = some (.int .i64 a1_1) := (blk_cell BK852.out 1).trans rfl)); (try (have hcu853_0 : w28.cell? ⟨gb853, 0, none⟩ = some (.int .i64 0) := (blk_cell BK853.out 0).trans rfl)); (try (have hcu853_1 : w28.cell? ⟨gb853, 1, none⟩ = some (.int .i64 0) := (blk_cell BK853.out 1).trans rfl))) | ((with_reducible refine gate_callee (f := 96) rfl ?_); refine gl_ (some 40) Tryz.func96 (by kernel_rfl) #[.int .u64 t860, .int .u64 t861, .int .u64 t862] rfl ?_; (with_reducible refine (deci_even.calls k t860 t861 t862 t863 true _ A10.out).mono ?_); rintro e w' ⟨rfl, ⟨nd, rfl⟩⟩; refine ⟨_, rfl, ?_⟩; (try (rw [drewN_self w28]; generalize hq_ : World.drewN w28 _ = w28; have n0_ : Aside0 (Kd.R k23 23 w28 w.heap.size (fun k_ => k_ ≠ gb851 ∧ k_ ≠ gb852 ∧ k_ ≠ gb853) (.slice Ao24 y854.length co24) y854) := ⟨by rw [← hq_]; exact (by (with_reducible repeat (first | apply Kd.R_alloc | apply Kd.R_drewN | apply Kd.R_drew)); exact Kd.R_mono HO856.out (fun _ hk => ⟨hk.1.1.2, ⟨hk.1.2, hk.2⟩⟩))⟩; have n1_ : Aside0 (w28.heap[gb851]? = some (.cells #[.int .i64 a0_0, .int .i64 a0_1] 23 (0, 0))) := ⟨by rw [← hq_]; exact (bk BK851.out)⟩; have n2_ : Aside0 (w28.heap[gb852]? = some (.cells #[.int .i64 a1_0, .int .i64 a1_1] 23 (0, 0))) := ⟨by rw [← hq_]; exact (bk BK852.out)⟩; have n3_ : Aside0 (w28.heap[gb853]? = some (.cells #[.int .i64 0, .int .i64 0] 23 (0, 0))) := ⟨by rw [← hq_]; exact (bk BK853.out)⟩; have n4_ : Aside0 (Below w.heap.size w w28) := ⟨by rw [← hq_]; exact (bz HB.out)⟩; clear HO856 BK851 BK852 BK853 HB hq_; have HO856 := n0_; have BK851 := n1_; have BK852 := n2_; have BK853 := n3_; have HB := n4_; clear n0_ n1_ n2_ n3_ n4_)); (try (have hcu851_0 : w28.cell? ⟨gb851, 0, none⟩ = some (.int .i64 a0_0) := (blk_cell BK851.out 0).trans rfl)); (try (have hcu851_1 : w28.cell? ⟨gb851, 1, none⟩ = some (.int .i64 a0_1) := (blk_cell BK851.out 1).trans rfl)); (try (have hcu852_0 : w28.cell? ⟨gb852, 0, none⟩ = some (.int .i64 a1_0) := (blk_cell BK852.out 0).trans rfl)); (try (have hcu852_1 : w28.cell? ⟨gb852, 1, none⟩ = some (.int .i64 a1_1) := (blk_cell BK852.out 1).trans rfl)); (try (have hcu853_0 : w28.cell? ⟨gb853, 0, none⟩ = some (.int .i64 0) := (blk_cell BK853.out 0).trans rfl)); (try (have hcu853_1 : w28.cell? ⟨gb853, 1, none⟩ = some (.int .i64 0) := (blk_cell BK853.out 1).trans rfl))) | ((with_reducible refine gate_callee (f := 45) rfl ?_); refine goesL_ (some 57) rfl rfl Tryz.func45 (by kernel_rfl) rfl #[.agg #[.int .u64 t863, .int .i64 ji12], .bool ((decide (a0_0 < 0)) != (decide (a1_0 < 0)))] rfl (by (try simp only [List.map_toArray, List.map_cons, List.map_nil]); first | done | (simp only [hji12]; rfl) | rfl | (simp only [List.length_drop, List.length_take]; rfl)) ?_; (with_reducible refine (deci_form_dec.calls k t863 ji12 ((decide (a0_0 < 0)) != (decide (a1_0 < 0))) t865 t866 t867 _ A13.out).mono ?_); rintro e w31 ⟨rfl, hb⟩; refine ⟨_, rfl, ?_⟩; replace HO856 := Aside0.mk (Kd.R_below (rr HO856.out) hb); replace BK851 := kb BK851 hb; replace BK852 := kb BK852 hb; replace BK853 := kb BK853 hb; replace HB := sb HB hb; clear hb; obtain ⟨Z32_0, Z32_1, F32_0, F32_1⟩ := cz2 BK853.out))
   refine bodyPost_ret (results_ct rfl _ _ gb853 23 #[.int .i64 t865, .int .i64 t866] (0, 0) _ rfl (bp BK853.out) Tryz.underlying23 rfl (by kernel_rfl)) rfl ?_
   exact ⟨by first | rfl | (simp [errW_none, errW_some] <;> rfl) | (simp only [← hji8, ← hji12]; first | rfl | (simp [errW_none, errW_some] <;> rfl)) | (simp [*, errW_none, errW_some] <;> rfl), bz HB.out⟩
  ·replace c11 := Bool.eq_false_iff.mpr c11
   subst c11
   have H1 : (none) = some (r1, r2, r3) := by rw [if_neg (show ¬ (false = true) by decide)] at H; exact H
   clear H
   have H := H1
   clear H1
   exact absurd H (by simp)
 ·rw [if_neg c4] at H
  exact absurd H (by simp)
end Go.Proofs.YtgkemhgihbfmmaaGreatDoor.PA
end
section
namespace Go.Proofs.YtgkemhgihbfmmaaGreatDoor.PA
open Go.RowKit Go.Proofs.YtgkemhgihbfmmaaGreatDoorW.PrintWords Go.Proofs.YtgkemhgihbfmmaaGreatDoorW.PrintLast Go.Proofs.YtgkemhgihbfmmaaGreatDoorW.PrintMore
attribute [local go_sem] max2_int min2_int max_two min_two max_three min_three max_four min_four isSome_set str_gtr
set_option linter.unusedVariables false
set_option linter.unusedSimpArgs false
def calc_reckon.j0 : Nat → Int → Bool → Int → Int → Int → ByteArray → Int → Int → Int → Int → ByteArray → Int → Option (Int × Int × Int × ByteArray × Int)
 | 0, _, _, _, _, _, _, _, _, _, _, _, _ => none
 | k + 1, x0, x16, x869000, x869001, x869002, x869003, x869004, x870000, x870001, x870002, x870003, x870004 => if x16 = true then (none) else (if x0 = 5 then (none) else (if x0 = 4 then (none) else (if x0 = 6 then ((deci_Mul.f k x869001 x869002 x870001 x870002).bind fun bt872 => (if bt872.2.2 = 0 then (some (1, bt872.1, bt872.2.1, (⟨#[]⟩ : ByteArray), 0)) else (none))) else (none))))
def calc_reckon.f (k : Nat) (a0 : Int) (a1_0 : Int) (a1_1 : Int) (a1_2 : Int) (a1_3 : ByteArray) (a1_4 : Int) (a2_0 : Int) (a2_1 : Int) (a2_2 : Int) (a2_3 : ByteArray) (a2_4 : Int) : Option (Int × Int × Int × ByteArray × Int) := if a1_0 = 1 then (calc_reckon.j0 k a0 (a2_0 != 1) a1_0 a1_1 a1_2 a1_3 a1_4 a2_0 a2_1 a2_2 a2_3 a2_4) else (calc_reckon.j0 k a0 true a1_0 a1_1 a1_2 a1_3 a1_4 a2_0 a2_1 a2_2 a2_3 a2_4)
theorem calc_reckon.mono_l : ∀ k, (∀ y0 y1 y2 y3 y4 y5 y6 y7 y8 y9 y10 y11, LeO (calc_reckon.j0 k y0 y1 y2 y3 y4 y5 y6 y7 y8 y9 y10 y11) (calc_reckon.j0 (k + 1) y0 y1 y2 y3 y4 y5 y6 y7 y8 y9 y10 y11))
 | 0 => fun _ _ _ _ _ _ _ _ _ _ _ _ r h => by simp [calc_reckon.j0] at h
 | k + 1 => by
  have ih0 := calc_reckon.mono_l k
  ·intro y0 y1 y2 y3 y4 y5 y6 y7 y8 y9 y10 y11
   unfold calc_reckon.j0
   have q0 := @deci_Mul.mono; exact lmo
theorem calc_reckon.mono : ∀ a0 a1 a2 a3 a4 a5 a6 a7 a8 a9 a10 k, LeO (calc_reckon.f k a0 a1 a2 a3 a4 a5 a6 a7 a8 a9 a10) (calc_reckon.f (k + 1) a0 a1 a2 a3 a4 a5 a6 a7 a8 a9 a10) := by
 intro a0 a1 a2 a3 a4 a5 a6 a7 a8 a9 a10 k
 have ih0 := calc_reckon.mono_l k
 unfold calc_reckon.f
 have q0 := @deci_Mul.mono; exact lmo
set_option maxHeartbeats 8000000 in
set_option maxRecDepth 100000 in
theorem calc_reckon.calls (k : Nat) (a0 : Int) (a1_0 : Int) (a1_1 : Int) (a1_2 : Int) (a1_3 : ByteArray) (a1_4 : Int) (a2_0 : Int) (a2_1 : Int) (a2_2 : Int) (a2_3 : ByteArray) (a2_4 : Int) (r1 : Int) (r2 : Int) (r3 : Int) (r4 : ByteArray) (r5 : Int) (w : World) (hT : Tabs w) (h : calc_reckon.f k a0 a1_0 a1_1 a1_2 a1_3 a1_4 a2_0 a2_1 a2_2 a2_3 a2_4 = some (r1, r2, r3, r4, r5)) :
  Calls Tryz.prog 79 #[.int .i64 a0, .agg #[.int .i64 a1_0, .int .i64 a1_1, .int .i64 a1_2, .string a1_3, .int .i64 a1_4], .agg #[.int .i64 a2_0, .int .i64 a2_1, .int .i64 a2_2, .string a2_3, .int .i64 a2_4]] w fun e w' => e = .returned (.agg #[.int .i64 r1, .int .i64 r2, .int .i64 r3, .string r4, .int .i64 r5]) ∧ Below w.heap.size w w' := by
 have hu25 := Tryz.underlying25
 have hu23 := Tryz.underlying23
 have HT := Aside0.mk hT; have HZ := Aside0.mk hT.null.pos; obtain ⟨hn0_, hn1_, hn2_, hn3_, hn4_⟩ := hT.null
 clear hT
 have HB := Aside0.mk (Below.refl w.heap.size w)
 have H : (if a1_0 = 1 then (calc_reckon.j0 k a0 (a2_0 != 1) a1_0 a1_1 a1_2 a1_3 a1_4 a2_0 a2_1 a2_2 a2_3 a2_4) else (calc_reckon.j0 k a0 true a1_0 a1_1 a1_2 a1_3 a1_4 a2_0 a2_1 a2_2 a2_3 a2_4)) = some (r1, r2, r3, r4, r5) := h
 clear h
 have HC4 := Aside0.mk H
 clear H
 go_enter Tryz.func79, Tryz.ntmps79
 go_upto_region 1 with (first | ((with_reducible refine gate_dst (N := 4) rfl ?_); refine bev (#[.int .i64 a1_0, .int .i64 a1_1, .int .i64 a1_2, .string a1_3, .int .i64 a1_4]) 25 ?_; intro gb868 hg w5 hbox hb; have BK868 := Aside0.mk (hbox); have GW868 := gs hg HB; have hz868 := ne0 HZ.out GW868.out; have GE868 := GW868; replace HB := sb HB hb; obtain ⟨hn0_, hn1_, hn2_, hn3_, hn4_⟩ := nullHere HT.out HB.out; clear hb hbox hg) | ((with_reducible refine gate_dst (N := 5) rfl ?_); refine bev (#[.int .i64 a2_0, .int .i64 a2_1, .int .i64 a2_2, .string a2_3, .int .i64 a2_4]) 25 ?_; intro gb869 hg w6 hbox hb; have BK869 := Aside0.mk (hbox); have GW869 := gs hg HB; have hz869 := ne0 HZ.out GW869.out; have GE869 := GW869; replace HB := sb HB hb; obtain ⟨hn0_, hn1_, hn2_, hn3_, hn4_⟩ := nullHere HT.out HB.out; have NB868_869 := na hg BK868; have NB869_868 := nb hg BK868; replace BK868 := kb BK868 hb; clear hb hbox hg) | ((with_reducible refine gate_dst (N := 6) rfl ?_); refine bev (#[.int .i64 0, .int .i64 0, .int .i64 0, .string (⟨#[]⟩ : ByteArray), .int .i64 0]) 25 ?_; intro gb870 hg w7 hbox hb; have BK870 := Aside0.mk (hbox); have GW870 := gs hg HB; have hz870 := ne0 HZ.out GW870.out; have GE870 := GW870; replace HB := sb HB hb; obtain ⟨hn0_, hn1_, hn2_, hn3_, hn4_⟩ := nullHere HT.out HB.out; have NB868_870 := na hg BK868; have NB870_868 := nb hg BK868; replace BK868 := kb BK868 hb; have NB869_870 := na hg BK869; have NB870_869 := nb hg BK869; replace BK869 := kb BK869 hb; clear hb hbox hg))
 (try simp only [Act.put, List.setIfInBounds_toArray, List.set_cons_zero, List.set_cons_succ])
 go_cut [16] (fun v16 wc => ∃ (kq : Nat) (x16_3 : Bool), v16 = .bool x16_3 ∧ Aside0 (calc_reckon.j0 kq a0 x16_3 a1_0 a1_1 a1_2 a1_3 a1_4 a2_0 a2_1 a2_2 a2_3 a2_4 = some (r1, r2, r3, r4, r5)) ∧ Aside0 (kq ≤ k) ∧ Aside0 (wc.heap[gb868]? = some (.cells #[.int .i64 a1_0, .int .i64 a1_1, .int .i64 a1_2, .string a1_3, .int .i64 a1_4] 25 (0, 0))) ∧ Aside0 (wc.heap[gb869]? = some (.cells #[.int .i64 a2_0, .int .i64 a2_1, .int .i64 a2_2, .string a2_3, .int .i64 a2_4] 25 (0, 0))) ∧ Aside0 (wc.heap[gb870]? = some (.cells #[.int .i64 0, .int .i64 0, .int .i64 0, .string (⟨#[]⟩ : ByteArray), .int .i64 0] 25 (0, 0))) ∧ Aside0 (Below w.heap.size w wc))
 case first =>
  have H := HC4.out
  clear HC4
  by_cases c8 : a1_0 = 1
  ·rw [if_pos c8] at H
   have c8b0 : (a1_0 == 1) = true := beq_iff_eq.mpr c8
   have c8b1 : (a1_0 != 1) = false := bne_eq_false_iff_eq.mpr c8
   clear c8
   (first | rw [c8b0] | (simp only [i64_w, i32_w]; rw [c8b0]) | skip)
   have H' := Aside0.mk H
   clear H
   have hnb9 := NB868_869.out
   have hnc9 := NB869_868.out
   have hnb10 := NB868_870.out
   have hnc10 := NB870_868.out
   obtain ⟨Z11_0, Z11_1, Z11_2, Z11_3, Z11_4, F11_0, F11_1, F11_2, F11_3, F11_4⟩ := cz5 BK868.out
   have hnb12 := NB869_870.out
   have hnc12 := NB870_869.out
   obtain ⟨Z13_0, Z13_1, Z13_2, Z13_3, Z13_4, F13_0, F13_1, F13_2, F13_3, F13_4⟩ := cz5 BK869.out
   go_wp2
   go_meet
   case rel => exact ⟨_, ((a2_0 != 1)), sz, H', ⟨oz⟩, ⟨bk BK868.out⟩, ⟨bk BK869.out⟩, ⟨bk BK870.out⟩, ⟨bz HB.out⟩⟩
  ·rw [if_neg c8] at H
   have c8b0 : (a1_0 == 1) = false := beq_eq_false_iff_ne.mpr c8
   have c8b1 : (a1_0 != 1) = true := bne_iff_ne.mpr c8
   (first | rw [c8b0] | (simp only [i64_w, i32_w]; rw [c8b0]) | skip)
   have H' := Aside0.mk H
   clear H
   have hnb14 := NB868_869.out
   have hnc14 := NB869_868.out
   have hnb15 := NB868_870.out
   have hnc15 := NB870_868.out
   obtain ⟨Z16_0, Z16_1, Z16_2, Z16_3, Z16_4, F16_0, F16_1, F16_2, F16_3, F16_4⟩ := cz5 BK868.out
   go_wp2
   go_meet
   case rel => exact ⟨_, (true), sz, H', ⟨oz⟩, ⟨bk BK868.out⟩, ⟨bk BK869.out⟩, ⟨bk BK870.out⟩, ⟨bz HB.out⟩⟩
 case rest =>
  clear HC4
  try clear c1; try clear p2; try clear c7; try clear c8; try clear c8b0; try clear c8b1; try clear c9; try clear c10; try clear c12; try clear c14; try clear c15; try clear Z11_0; try clear Z11_1; try clear Z11_2; try clear Z11_3; try clear Z11_4; try clear Z13_0; try clear Z13_1; try clear Z13_2; try clear Z13_3; try clear Z13_4; try clear Z16_0; try clear Z16_1; try clear Z16_2; try clear Z16_3; try clear Z16_4; try clear F11_0; try clear F11_1; try clear F11_2; try clear F11_3; try clear F11_4; try clear F13_0; try clear F13_1; try clear F13_2; try clear F13_3; try clear F13_4; try clear F16_0; try clear F16_1; try clear F16_2; try clear F16_3; try clear F16_4
  obtain ⟨kq, x16_3, rfl, HA, HJ3, BK868, BK869, BK870, HB⟩ := hcut; obtain ⟨hn0_, hn1_, hn2_, hn3_, hn4_⟩ := nullHere HT.out HB.out
  cases kq with
  | zero => exact absurd HA.out (by simp [calc_reckon.j0])
  | succ kj3 =>
   have H := HA.out
   clear HA
   simp only [calc_reckon.j0] at H
   by_cases c17 : x16_3 = true
   ·subst c17
    (try simp only [Bool.not_true, Bool.not_false])
    have H1 : (none) = some (r1, r2, r3, r4, r5) := by rw [if_pos rfl] at H; exact H
    clear H
    have H := H1
    clear H1
    exact absurd H (by simp)
   ·replace c17 := Bool.eq_false_iff.mpr c17
    subst c17
    (try simp only [Bool.not_true, Bool.not_false])
    have H1 : (if a0 = 5 then (none) else (if a0 = 4 then (none) else (if a0 = 6 then ((deci_Mul.f kj3 a1_1 a1_2 a2_1 a2_2).bind fun bt872 => (if bt872.2.2 = 0 then (some (1, bt872.1, bt872.2.1, (⟨#[]⟩ : ByteArray), 0)) else (none))) else (none)))) = some (r1, r2, r3, r4, r5) := by rw [if_neg (show ¬ (false = true) by decide)] at H; exact H
    clear H
    have H := H1
    clear H1
    have HC18 := Aside0.mk H
    clear H
    go_upto_if 19 with (first | ((with_reducible refine gate_dst (N := 7) rfl ?_); refine bev (#[.int .i64 0, .int .i64 0]) 23 ?_; intro gb871 hg w19 hbox hb; have BK871 := Aside0.mk (hbox); have GW871 := gs hg HB; have hz871 := ne0 HZ.out GW871.out; have GE871 := GW871; replace HB := sb HB hb; obtain ⟨hn0_, hn1_, hn2_, hn3_, hn4_⟩ := nullHere HT.out HB.out; have NB868_871 := na hg BK868; have NB871_868 := nb hg BK868; replace BK868 := kb BK868 hb; have NB869_871 := na hg BK869; have NB871_869 := nb hg BK869; replace BK869 := kb BK869 hb; have NB870_871 := na hg BK870; have NB871_870 := nb hg BK870; replace BK870 := kb BK870 hb; clear hb hbox hg))
    (try simp only [Act.put, List.setIfInBounds_toArray, List.set_cons_zero, List.set_cons_succ])
    have H := HC18.out
    clear HC18
    by_cases c20 : a0 = 5
    ·rw [if_pos c20] at H
     have c20b0 : (a0 == 5) = true := beq_iff_eq.mpr c20
     have c20b1 : (a0 != 5) = false := bne_eq_false_iff_eq.mpr c20
     clear c20
     (first | rw [c20b0] | (simp only [i64_w, i32_w]; rw [c20b0]) | skip)
     exact absurd H (by simp)
    ·rw [if_neg c20] at H
     have c20b0 : (a0 == 5) = false := beq_eq_false_iff_ne.mpr c20
     have c20b1 : (a0 != 5) = true := bne_iff_ne.mpr c20
     (first | rw [c20b0] | (simp only [i64_w, i32_w]; rw [c20b0]) | skip)
     by_cases c21 : a0 = 4
     ·rw [if_pos c21] at H
      have c21b0 : (a0 == 4) = true := beq_iff_eq.mpr c21
      have c21b1 : (a0 != 4) = false := bne_eq_false_iff_eq.mpr c21
      clear c21
      exact absurd H (by simp)
     ·rw [if_neg c21] at H
      have c21b0 : (a0 == 4) = false := beq_eq_false_iff_ne.mpr c21
      have c21b1 : (a0 != 4) = true := bne_iff_ne.mpr c21
      by_cases c22 : a0 = 6
      ·rw [if_pos c22] at H
       have c22b0 : (a0 == 6) = true := beq_iff_eq.mpr c22
       have c22b1 : (a0 != 6) = false := bne_eq_false_iff_eq.mpr c22
       clear c22
       replace H := Option.bind_eq_some_iff.mp H
       obtain ⟨⟨t872, t873, t874⟩, A230, H⟩ := H
       replace H : (if t874 = 0 then (some (1, t872, t873, (⟨#[]⟩ : ByteArray), 0)) else (none)) = some (r1, r2, r3, r4, r5) := H
       have A23 := Aside0.mk A230
       clear A230
       by_cases c24 : t874 = 0
       ·rw [if_pos c24] at H
        have c24b0 : (t874 == 0) = true := beq_iff_eq.mpr c24
        have c24b1 : (t874 != 0) = false := bne_eq_false_iff_eq.mpr c24
        clear c24
        simp only [Option.some.injEq, Prod.mk.injEq] at H
        obtain ⟨rfl, rfl, rfl, rfl, rfl⟩ := H
        have hnb25 := NB868_869.out
        have hnc25 := NB869_868.out
        have hnb26 := NB868_870.out
        have hnc26 := NB870_868.out
        have hnb27 := NB868_871.out
        have hnc27 := NB871_868.out
        obtain ⟨Z28_0, Z28_1, Z28_2, Z28_3, Z28_4, F28_0, F28_1, F28_2, F28_3, F28_4⟩ := cz5 BK868.out
        have hnb29 := NB869_870.out
        have hnc29 := NB870_869.out
        have hnb30 := NB869_871.out
        have hnc30 := NB871_869.out
        obtain ⟨Z31_0, Z31_1, Z31_2, Z31_3, Z31_4, F31_0, F31_1, F31_2, F31_3, F31_4⟩ := cz5 BK869.out
        go_wp2_with (first | ((with_reducible refine gate_callee (f := 119) rfl ?_); refine gl_ (some 45) Tryz.func119 (by kernel_rfl) #[.agg #[.int .i64 a1_1, .int .i64 a1_2], .agg #[.int .i64 a2_1, .int .i64 a2_2]] rfl ?_; (with_reducible refine (deci_Mul.calls kj3 a1_1 a1_2 a2_1 a2_2 t872 t873 t874 _ A23.out).mono ?_); rintro e w32 ⟨rfl, hb⟩; refine ⟨_, rfl, ?_⟩; replace BK868 := kb BK868 hb; replace BK869 := kb BK869 hb; replace BK870 := kb BK870 hb; replace BK871 := kb BK871 hb; replace HB := sb HB hb; obtain ⟨hn0_, hn1_, hn2_, hn3_, hn4_⟩ := nullHere HT.out HB.out; clear hb; have hnb33 := NB871_870.out; have hnc33 := NB870_871.out; obtain ⟨Z34_0, Z34_1, F34_0, F34_1⟩ := cz2 BK871.out; obtain ⟨Z35_0, Z35_1, Z35_2, Z35_3, Z35_4, F35_0, F35_1, F35_2, F35_3, F35_4⟩ := cz5 BK870.out))
        refine bodyPost_ret (results_cell_row rfl _ _ gb870 25 #[.int .i64 1, .int .i64 t872, .int .i64 t873, .string (⟨#[]⟩ : ByteArray), .int .i64 0] (0, 0) _ rfl (bp BK870.out) Tryz.underlying25 rfl (by kernel_rfl)) rfl ?_
        exact ⟨az, bz HB.out⟩
       ·rw [if_neg c24] at H
        exact absurd H (by simp)
      ·rw [if_neg c22] at H
       have c22b0 : (a0 == 6) = false := beq_eq_false_iff_ne.mpr c22
       have c22b1 : (a0 != 6) = true := bne_iff_ne.mpr c22
       exact absurd H (by simp)
end Go.Proofs.YtgkemhgihbfmmaaGreatDoor.PA
end
