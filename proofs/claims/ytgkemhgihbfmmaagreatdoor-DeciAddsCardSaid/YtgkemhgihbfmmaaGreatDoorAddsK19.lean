/- Part 20 of the proof for Adds: functions of the program as plain Lean functions, their calls, and what they come to. -/
import Derived.RowKit
import Derived.Test.YtgkemhgihbfmmaaGreatDoorAddsK16
import Derived.Test.YtgkemhgihbfmmaaGreatDoorAddsK18
import Derived.Test.YtgkemhgihbfmmaaGreatDoorAddsK2
import Derived.Test.YtgkemhgihbfmmaaGreatDoorAddsK17
set_option linter.unusedVariables false
set_option linter.unusedSimpArgs false
section
namespace Go.Proofs.YtgkemhgihbfmmaaGreatDoor.PA
open Go.RowKit Go.Proofs.YtgkemhgihbfmmaaGreatDoorW.PrintWords Go.Proofs.YtgkemhgihbfmmaaGreatDoorW.PrintLast Go.Proofs.YtgkemhgihbfmmaaGreatDoorW.PrintMore
attribute [local go_sem] max2_int min2_int max_two min_two max_three min_three max_four min_four
set_option linter.unusedVariables false
set_option linter.unusedSimpArgs false
attribute [local go_sem high] eqA23
def soffitlaw01_awake.f (k : Nat)  : Option (Bool) := (deci_Parse.f k (⟨#[49, 50, 46, 53, 48]⟩ : ByteArray)).bind fun bt274 => ((deci_Text.f k bt274.1 bt274.2.1).bind fun bt278 => ((deci_Div.f k 2 0 3 0).bind fun bt280 => (if bt274.2.2 = 0 then (if bt278.2 = 0 then (if bt280.2.2 = 0 then (if bt278.1.toList = ([49, 50, 46, 53] : List UInt8) then (some (bt280.1 == 666667 && (bt280.2.1 == 6))) else (some false)) else (some false)) else (some false)) else (some false))))
theorem soffitlaw01_awake.mono : ∀ k, LeO (soffitlaw01_awake.f k ) (soffitlaw01_awake.f (k + 1) ) := by
  intro  k
  unfold soffitlaw01_awake.f
  repeat' first
      | (with_reducible exact deci_Div.mono _ _ _ _ _)
      | (with_reducible exact deci_Parse.mono _ _)
      | (with_reducible exact deci_Text.mono _ _ _)
      | (with_reducible exact LeO.refl _)
      | (with_reducible exact LeO.none _)
      | (with_reducible refine LeO.ite ?_ ?_)
      | (with_reducible refine LeO.bind ?_ (fun _ => ?_))
      | exact deci_Div.mono _ _ _ _ _
      | exact deci_Parse.mono _ _
      | exact deci_Text.mono _ _ _
      | exact LeO.none _
      | refine LeO.ite ?_ ?_
      | refine LeO.bind ?_ (fun _ => ?_)
set_option maxHeartbeats 8000000 in
set_option maxRecDepth 100000 in
theorem soffitlaw01_awake.calls (k : Nat)  (r : Bool) (w : World) (hT : Tabs w) (h : soffitlaw01_awake.f k  = some r) :
    Calls Tryz.prog 19 #[] w fun e w' => e = .returned (.bool r) ∧ Below w.heap.size w w' := by
  have hu23 := Tryz.underlying23
  have HT := Aside0.mk hT
  clear hT
  have HB := Aside0.mk (Below.refl w.heap.size w)
  have H : ((deci_Parse.f k (⟨#[49, 50, 46, 53, 48]⟩ : ByteArray)).bind fun bt274 => ((deci_Text.f k bt274.1 bt274.2.1).bind fun bt278 => ((deci_Div.f k 2 0 3 0).bind fun bt280 => (if bt274.2.2 = 0 then (if bt278.2 = 0 then (if bt280.2.2 = 0 then (if bt278.1.toList = ([49, 50, 46, 53] : List UInt8) then (some (bt280.1 == 666667 && (bt280.2.1 == 6))) else (some false)) else (some false)) else (some false)) else (some false))))) = some r := h
  clear h
  replace H := Option.bind_eq_some_iff.mp H
  obtain ⟨⟨t274, t275, t276⟩, A10, H⟩ := H
  replace H : ((deci_Text.f k t274 t275).bind fun bt278 => ((deci_Div.f k 2 0 3 0).bind fun bt280 => (if t276 = 0 then (if bt278.2 = 0 then (if bt280.2.2 = 0 then (if bt278.1.toList = ([49, 50, 46, 53] : List UInt8) then (some (bt280.1 == 666667 && (bt280.2.1 == 6))) else (some false)) else (some false)) else (some false)) else (some false)))) = some r := H
  have A1 := Aside0.mk A10
  clear A10
  replace H := Option.bind_eq_some_iff.mp H
  obtain ⟨⟨t278, t279⟩, A20, H⟩ := H
  replace H : ((deci_Div.f k 2 0 3 0).bind fun bt280 => (if t276 = 0 then (if t279 = 0 then (if bt280.2.2 = 0 then (if t278.toList = ([49, 50, 46, 53] : List UInt8) then (some (bt280.1 == 666667 && (bt280.2.1 == 6))) else (some false)) else (some false)) else (some false)) else (some false))) = some r := H
  have A2 := Aside0.mk A20
  clear A20
  replace H := Option.bind_eq_some_iff.mp H
  obtain ⟨⟨t280, t281, t282⟩, A30, H⟩ := H
  replace H : (if t276 = 0 then (if t279 = 0 then (if t282 = 0 then (if t278.toList = ([49, 50, 46, 53] : List UInt8) then (some (t280 == 666667 && (t281 == 6))) else (some false)) else (some false)) else (some false)) else (some false)) = some r := H
  have A3 := Aside0.mk A30
  clear A30
  by_cases c4 : t276 = 0
  · rw [if_pos c4] at H
    have c4b0 : (t276 == 0) = true := beq_iff_eq.mpr c4
    have c4b1 : (t276 != 0) = false := bne_eq_false_iff_eq.mpr c4
    clear c4
    by_cases c5 : t279 = 0
    · rw [if_pos c5] at H
      have c5b0 : (t279 == 0) = true := beq_iff_eq.mpr c5
      have c5b1 : (t279 != 0) = false := bne_eq_false_iff_eq.mpr c5
      clear c5
      by_cases c6 : t282 = 0
      · rw [if_pos c6] at H
        have c6b0 : (t282 == 0) = true := beq_iff_eq.mpr c6
        have c6b1 : (t282 != 0) = false := bne_eq_false_iff_eq.mpr c6
        clear c6
        by_cases c7 : t278.toList = ([49, 50, 46, 53] : List UInt8)
        · rw [if_pos c7] at H
          have c7b0 : (t278.toList == ([49, 50, 46, 53] : List UInt8)) = true := beq_iff_eq.mpr c7
          have c7b1 : (t278.toList != ([49, 50, 46, 53] : List UInt8)) = false := bne_eq_false_iff_eq.mpr c7
          clear c7
          obtain rfl := Option.some.inj H
          go_enter Tryz.func19, Tryz.ntmps19
          go_wp2_with (first | ((with_reducible refine gate_callee (f := 51) rfl ?_); refine goesL_ (some 8) rfl rfl Tryz.func51 (by kernel_rfl) rfl #[.string (⟨#[49, 50, 46, 53, 48]⟩ : ByteArray)] rfl (by (try simp only [List.map_toArray, List.map_cons, List.map_nil]); first | done | rfl | (simp only [List.length_drop, List.length_take]; rfl)) ?_; (with_reducible refine (deci_Parse.calls k (⟨#[49, 50, 46, 53, 48]⟩ : ByteArray) t274 t275 t276 _ A1.out).mono ?_); rintro e w8 ⟨rfl, hb⟩; refine ⟨_, rfl, ?_⟩; have n0_ := Aside0.mk (below_step (by repeat (first | (with_reducible first | exact HB.out | apply below_alloc | apply pw_below_drewN | apply below_drew1) | exact HB.out)) hb); clear HB; have HB := n0_; clear n0_; (try clear hb); (try clear hb2); (try clear hk); (try clear hi)) | ((with_reducible refine gate_dst (N := 1) rfl ?_); refine box_event ?hg (N := 1) ?hd (cs := #[.int .i64 0, .int .i64 0]) (t := 23) ?hr ?_; (case hd => rfl); (case hg => rfl); (case hr => first | (go_simp; done) | (go_simp; rfl)); intro gb277 hg w9 hbox hb; have n0_ := Aside0.mk (below_step (by repeat (first | (with_reducible first | exact HB.out | apply below_alloc | apply pw_below_drewN | apply below_drew1) | exact HB.out)) hb); have n1_ := Aside0.mk (hbox); have n2_ := Aside0.mk ((by rw [hg]; exact (below_size (by repeat (first | (with_reducible first | exact HB.out | apply below_alloc | apply pw_below_drewN | apply below_drew1) | exact HB.out))) : w.heap.size ≤ gb277)); have n3_ := Aside0.mk ((by rw [hg]; exact (below_size (by repeat (first | (with_reducible first | exact HB.out | apply below_alloc | apply pw_below_drewN | apply below_drew1) | exact HB.out))) : w.heap.size ≤ gb277)); clear HB; have HB := n0_; have BK277 := n1_; have GW277 := n2_; have GE277 := n3_; clear n0_ n1_ n2_ n3_; clear hb hbox hg; have hcz10_0 : w9.cell? ⟨gb277, 0, none⟩ = some (.int .i64 0) := (blk_cell BK277.out 0).trans rfl; have hcz10_1 : w9.cell? ⟨gb277, 1, none⟩ = some (.int .i64 0) := (blk_cell BK277.out 1).trans rfl; have hfz10_0 := blk_frozen BK277.out 0; have hfz10_1 := blk_frozen BK277.out 1) | ((with_reducible refine gate_callee (f := 52) rfl ?_); refine goesL_ (some 13) rfl rfl Tryz.func52 (by kernel_rfl) rfl #[.agg #[.int .i64 t274, .int .i64 t275]] rfl (by (try simp only [List.map_toArray, List.map_cons, List.map_nil]); first | done | rfl | (simp only [List.length_drop, List.length_take]; rfl)) ?_; (with_reducible refine (deci_Text.calls k t274 t275 t278 t279 _ ?side1 A2.out).mono ?_); (case side1 => exact tabs_of HT.out (by repeat (first | (with_reducible first | exact HB.out | apply below_alloc | apply pw_below_drewN | apply below_drew1 | refine below_set ?_ GE277.out) | exact HB.out))); rintro e w11 ⟨rfl, hb⟩; refine ⟨_, rfl, ?_⟩; have n0_ := Aside0.mk (blk_below (g := gb277) (o := .cells #[.int .i64 t274, .int .i64 t275] 23 (0, 0)) (by (with_reducible repeat (first | refine blk_drewN ?_ _ | refine blk_drew ?_ | refine blk_alloc ?_ _)); refine blk_put (cs := #[.int .i64 t274, .int .i64 0]) ?_ 1 _ rfl; (with_reducible repeat (first | refine blk_drewN ?_ _ | refine blk_drew ?_ | refine blk_alloc ?_ _)); refine blk_put (cs := #[.int .i64 0, .int .i64 0]) ?_ 0 _ rfl; (with_reducible repeat (first | refine blk_drewN ?_ _ | refine blk_drew ?_ | refine blk_alloc ?_ _)); exact BK277.out) hb); have n1_ := Aside0.mk (below_step (by repeat (first | (with_reducible first | exact HB.out | apply below_alloc | apply pw_below_drewN | apply below_drew1 | refine below_set ?_ GE277.out) | exact HB.out)) hb); clear BK277; clear HB; have BK277 := n0_; have HB := n1_; clear n0_ n1_; (try clear hb); (try clear hb2); (try clear hk); (try clear hi)) | ((with_reducible refine gate_callee (f := 53) rfl ?_); refine goesL_ (some 19) rfl rfl Tryz.func53 (by kernel_rfl) rfl #[.agg #[.int .i64 2, .int .i64 0], .agg #[.int .i64 3, .int .i64 0]] rfl (by (try simp only [List.map_toArray, List.map_cons, List.map_nil]); first | done | rfl | (simp only [List.length_drop, List.length_take]; rfl)) ?_; (with_reducible refine (deci_Div.calls k 2 0 3 0 t280 t281 t282 _ A3.out).mono ?_); rintro e w12 ⟨rfl, hb⟩; refine ⟨_, rfl, ?_⟩; have n0_ := Aside0.mk (blk_below (g := gb277) (o := .cells #[.int .i64 t274, .int .i64 t275] 23 (0, 0)) (by (with_reducible repeat (first | refine blk_drewN ?_ _ | refine blk_drew ?_ | refine blk_alloc ?_ _)); exact BK277.out) hb); have n1_ := Aside0.mk (below_step (by repeat (first | (with_reducible first | exact HB.out | apply below_alloc | apply pw_below_drewN | apply below_drew1 | refine below_set ?_ GE277.out) | exact HB.out)) hb); clear BK277; clear HB; have BK277 := n0_; have HB := n1_; clear n0_ n1_; (try clear hb); (try clear hb2); (try clear hk); (try clear hi)) | ((with_reducible refine gate_dst (N := 5) rfl ?_); refine box_event ?hg (N := 5) ?hd (cs := #[.int .i64 0, .int .i64 0]) (t := 23) ?hr ?_; (case hd => rfl); (case hg => rfl); (case hr => first | (go_simp; done) | (go_simp; rfl)); intro gb283 hg w13 hbox hb; have n0_ := Aside0.mk (blk_below (g := gb277) (o := .cells #[.int .i64 t274, .int .i64 t275] 23 (0, 0)) (by (with_reducible repeat (first | refine blk_drewN ?_ _ | refine blk_drew ?_ | refine blk_alloc ?_ _)); exact BK277.out) hb); have n1_ := Aside0.mk (below_step (by repeat (first | (with_reducible first | exact HB.out | apply below_alloc | apply pw_below_drewN | apply below_drew1 | refine below_set ?_ GE277.out) | exact HB.out)) hb); have n2_ := Aside0.mk (hbox); have n3_ := Aside0.mk ((by rw [hg]; exact (below_size (by repeat (first | (with_reducible first | exact HB.out | apply below_alloc | apply pw_below_drewN | apply below_drew1 | refine below_set ?_ GE277.out) | exact HB.out))) : w.heap.size ≤ gb283)); have n4_ := Aside0.mk ((by rw [hg]; exact (below_size (by repeat (first | (with_reducible first | exact HB.out | apply below_alloc | apply pw_below_drewN | apply below_drew1 | refine below_set ?_ GE277.out) | exact HB.out))) : w.heap.size ≤ gb283)); have n5_ := Aside0.mk ((by rw [hg]; exact Nat.ne_of_lt (blk_lt (g := gb277) (o := .cells #[.int .i64 t274, .int .i64 t275] 23 (0, 0)) (by (with_reducible repeat (first | refine blk_drewN ?_ _ | refine blk_drew ?_ | refine blk_alloc ?_ _)); exact BK277.out)) : gb277 ≠ gb283)); have n6_ := Aside0.mk ((by rw [hg]; exact Nat.ne_of_gt (blk_lt (g := gb277) (o := .cells #[.int .i64 t274, .int .i64 t275] 23 (0, 0)) (by (with_reducible repeat (first | refine blk_drewN ?_ _ | refine blk_drew ?_ | refine blk_alloc ?_ _)); exact BK277.out)) : gb283 ≠ gb277)); clear BK277; clear HB; have BK277 := n0_; have HB := n1_; have BK283 := n2_; have GW283 := n3_; have GE283 := n4_; have NB277_283 := n5_; have NB283_277 := n6_; clear n0_ n1_ n2_ n3_ n4_ n5_ n6_; clear hb hbox hg; have hnb14 := NB283_277.out; have hnc14 := NB277_283.out; have hcz15_0 : w13.cell? ⟨gb283, 0, none⟩ = some (.int .i64 0) := (blk_cell BK283.out 0).trans rfl; have hcz15_1 : w13.cell? ⟨gb283, 1, none⟩ = some (.int .i64 0) := (blk_cell BK283.out 1).trans rfl; have hfz15_0 := blk_frozen BK283.out 0; have hfz15_1 := blk_frozen BK283.out 1))
          go_ret
          exact ⟨by first | rfl | (simp [errW_none, errW_some] <;> rfl) | (simp [*, errW_none, errW_some] <;> rfl), by repeat (first | (with_reducible first | exact HB.out | apply below_alloc | apply pw_below_drewN | apply below_drew1 | refine below_set ?_ GE277.out | refine below_set ?_ GE283.out) | exact HB.out)⟩
        · rw [if_neg c7] at H
          have c7b0 : (t278.toList == ([49, 50, 46, 53] : List UInt8)) = false := beq_eq_false_iff_ne.mpr c7
          have c7b1 : (t278.toList != ([49, 50, 46, 53] : List UInt8)) = true := bne_iff_ne.mpr c7
          obtain rfl := Option.some.inj H
          go_enter Tryz.func19, Tryz.ntmps19
          go_wp2_with (first | ((with_reducible refine gate_callee (f := 51) rfl ?_); refine goesL_ (some 8) rfl rfl Tryz.func51 (by kernel_rfl) rfl #[.string (⟨#[49, 50, 46, 53, 48]⟩ : ByteArray)] rfl (by (try simp only [List.map_toArray, List.map_cons, List.map_nil]); first | done | rfl | (simp only [List.length_drop, List.length_take]; rfl)) ?_; (with_reducible refine (deci_Parse.calls k (⟨#[49, 50, 46, 53, 48]⟩ : ByteArray) t274 t275 t276 _ A1.out).mono ?_); rintro e w16 ⟨rfl, hb⟩; refine ⟨_, rfl, ?_⟩; have n0_ := Aside0.mk (below_step (by repeat (first | (with_reducible first | exact HB.out | apply below_alloc | apply pw_below_drewN | apply below_drew1) | exact HB.out)) hb); clear HB; have HB := n0_; clear n0_; (try clear hb); (try clear hb2); (try clear hk); (try clear hi)) | ((with_reducible refine gate_dst (N := 1) rfl ?_); refine box_event ?hg (N := 1) ?hd (cs := #[.int .i64 0, .int .i64 0]) (t := 23) ?hr ?_; (case hd => rfl); (case hg => rfl); (case hr => first | (go_simp; done) | (go_simp; rfl)); intro gb277 hg w17 hbox hb; have n0_ := Aside0.mk (below_step (by repeat (first | (with_reducible first | exact HB.out | apply below_alloc | apply pw_below_drewN | apply below_drew1) | exact HB.out)) hb); have n1_ := Aside0.mk (hbox); have n2_ := Aside0.mk ((by rw [hg]; exact (below_size (by repeat (first | (with_reducible first | exact HB.out | apply below_alloc | apply pw_below_drewN | apply below_drew1) | exact HB.out))) : w.heap.size ≤ gb277)); have n3_ := Aside0.mk ((by rw [hg]; exact (below_size (by repeat (first | (with_reducible first | exact HB.out | apply below_alloc | apply pw_below_drewN | apply below_drew1) | exact HB.out))) : w.heap.size ≤ gb277)); clear HB; have HB := n0_; have BK277 := n1_; have GW277 := n2_; have GE277 := n3_; clear n0_ n1_ n2_ n3_; clear hb hbox hg; have hcz18_0 : w17.cell? ⟨gb277, 0, none⟩ = some (.int .i64 0) := (blk_cell BK277.out 0).trans rfl; have hcz18_1 : w17.cell? ⟨gb277, 1, none⟩ = some (.int .i64 0) := (blk_cell BK277.out 1).trans rfl; have hfz18_0 := blk_frozen BK277.out 0; have hfz18_1 := blk_frozen BK277.out 1) | ((with_reducible refine gate_callee (f := 52) rfl ?_); refine goesL_ (some 13) rfl rfl Tryz.func52 (by kernel_rfl) rfl #[.agg #[.int .i64 t274, .int .i64 t275]] rfl (by (try simp only [List.map_toArray, List.map_cons, List.map_nil]); first | done | rfl | (simp only [List.length_drop, List.length_take]; rfl)) ?_; (with_reducible refine (deci_Text.calls k t274 t275 t278 t279 _ ?side1 A2.out).mono ?_); (case side1 => exact tabs_of HT.out (by repeat (first | (with_reducible first | exact HB.out | apply below_alloc | apply pw_below_drewN | apply below_drew1 | refine below_set ?_ GE277.out) | exact HB.out))); rintro e w19 ⟨rfl, hb⟩; refine ⟨_, rfl, ?_⟩; have n0_ := Aside0.mk (blk_below (g := gb277) (o := .cells #[.int .i64 t274, .int .i64 t275] 23 (0, 0)) (by (with_reducible repeat (first | refine blk_drewN ?_ _ | refine blk_drew ?_ | refine blk_alloc ?_ _)); refine blk_put (cs := #[.int .i64 t274, .int .i64 0]) ?_ 1 _ rfl; (with_reducible repeat (first | refine blk_drewN ?_ _ | refine blk_drew ?_ | refine blk_alloc ?_ _)); refine blk_put (cs := #[.int .i64 0, .int .i64 0]) ?_ 0 _ rfl; (with_reducible repeat (first | refine blk_drewN ?_ _ | refine blk_drew ?_ | refine blk_alloc ?_ _)); exact BK277.out) hb); have n1_ := Aside0.mk (below_step (by repeat (first | (with_reducible first | exact HB.out | apply below_alloc | apply pw_below_drewN | apply below_drew1 | refine below_set ?_ GE277.out) | exact HB.out)) hb); clear BK277; clear HB; have BK277 := n0_; have HB := n1_; clear n0_ n1_; (try clear hb); (try clear hb2); (try clear hk); (try clear hi)) | ((with_reducible refine gate_callee (f := 53) rfl ?_); refine goesL_ (some 19) rfl rfl Tryz.func53 (by kernel_rfl) rfl #[.agg #[.int .i64 2, .int .i64 0], .agg #[.int .i64 3, .int .i64 0]] rfl (by (try simp only [List.map_toArray, List.map_cons, List.map_nil]); first | done | rfl | (simp only [List.length_drop, List.length_take]; rfl)) ?_; (with_reducible refine (deci_Div.calls k 2 0 3 0 t280 t281 t282 _ A3.out).mono ?_); rintro e w20 ⟨rfl, hb⟩; refine ⟨_, rfl, ?_⟩; have n0_ := Aside0.mk (blk_below (g := gb277) (o := .cells #[.int .i64 t274, .int .i64 t275] 23 (0, 0)) (by (with_reducible repeat (first | refine blk_drewN ?_ _ | refine blk_drew ?_ | refine blk_alloc ?_ _)); exact BK277.out) hb); have n1_ := Aside0.mk (below_step (by repeat (first | (with_reducible first | exact HB.out | apply below_alloc | apply pw_below_drewN | apply below_drew1 | refine below_set ?_ GE277.out) | exact HB.out)) hb); clear BK277; clear HB; have BK277 := n0_; have HB := n1_; clear n0_ n1_; (try clear hb); (try clear hb2); (try clear hk); (try clear hi)) | ((with_reducible refine gate_dst (N := 5) rfl ?_); refine box_event ?hg (N := 5) ?hd (cs := #[.int .i64 0, .int .i64 0]) (t := 23) ?hr ?_; (case hd => rfl); (case hg => rfl); (case hr => first | (go_simp; done) | (go_simp; rfl)); intro gb283 hg w21 hbox hb; have n0_ := Aside0.mk (blk_below (g := gb277) (o := .cells #[.int .i64 t274, .int .i64 t275] 23 (0, 0)) (by (with_reducible repeat (first | refine blk_drewN ?_ _ | refine blk_drew ?_ | refine blk_alloc ?_ _)); exact BK277.out) hb); have n1_ := Aside0.mk (below_step (by repeat (first | (with_reducible first | exact HB.out | apply below_alloc | apply pw_below_drewN | apply below_drew1 | refine below_set ?_ GE277.out) | exact HB.out)) hb); have n2_ := Aside0.mk (hbox); have n3_ := Aside0.mk ((by rw [hg]; exact (below_size (by repeat (first | (with_reducible first | exact HB.out | apply below_alloc | apply pw_below_drewN | apply below_drew1 | refine below_set ?_ GE277.out) | exact HB.out))) : w.heap.size ≤ gb283)); have n4_ := Aside0.mk ((by rw [hg]; exact (below_size (by repeat (first | (with_reducible first | exact HB.out | apply below_alloc | apply pw_below_drewN | apply below_drew1 | refine below_set ?_ GE277.out) | exact HB.out))) : w.heap.size ≤ gb283)); have n5_ := Aside0.mk ((by rw [hg]; exact Nat.ne_of_lt (blk_lt (g := gb277) (o := .cells #[.int .i64 t274, .int .i64 t275] 23 (0, 0)) (by (with_reducible repeat (first | refine blk_drewN ?_ _ | refine blk_drew ?_ | refine blk_alloc ?_ _)); exact BK277.out)) : gb277 ≠ gb283)); have n6_ := Aside0.mk ((by rw [hg]; exact Nat.ne_of_gt (blk_lt (g := gb277) (o := .cells #[.int .i64 t274, .int .i64 t275] 23 (0, 0)) (by (with_reducible repeat (first | refine blk_drewN ?_ _ | refine blk_drew ?_ | refine blk_alloc ?_ _)); exact BK277.out)) : gb283 ≠ gb277)); clear BK277; clear HB; have BK277 := n0_; have HB := n1_; have BK283 := n2_; have GW283 := n3_; have GE283 := n4_; have NB277_283 := n5_; have NB283_277 := n6_; clear n0_ n1_ n2_ n3_ n4_ n5_ n6_; clear hb hbox hg; have hnb22 := NB283_277.out; have hnc22 := NB277_283.out; have hcz23_0 : w21.cell? ⟨gb283, 0, none⟩ = some (.int .i64 0) := (blk_cell BK283.out 0).trans rfl; have hcz23_1 : w21.cell? ⟨gb283, 1, none⟩ = some (.int .i64 0) := (blk_cell BK283.out 1).trans rfl; have hfz23_0 := blk_frozen BK283.out 0; have hfz23_1 := blk_frozen BK283.out 1))
          go_ret
          exact ⟨by first | rfl | (simp [errW_none, errW_some] <;> rfl) | (simp [*, errW_none, errW_some] <;> rfl), by repeat (first | (with_reducible first | exact HB.out | apply below_alloc | apply pw_below_drewN | apply below_drew1 | refine below_set ?_ GE277.out | refine below_set ?_ GE283.out) | exact HB.out)⟩
      · rw [if_neg c6] at H
        have c6b0 : (t282 == 0) = false := beq_eq_false_iff_ne.mpr c6
        have c6b1 : (t282 != 0) = true := bne_iff_ne.mpr c6
        obtain rfl := Option.some.inj H
        go_enter Tryz.func19, Tryz.ntmps19
        go_wp2_with (first | ((with_reducible refine gate_callee (f := 51) rfl ?_); refine goesL_ (some 8) rfl rfl Tryz.func51 (by kernel_rfl) rfl #[.string (⟨#[49, 50, 46, 53, 48]⟩ : ByteArray)] rfl (by (try simp only [List.map_toArray, List.map_cons, List.map_nil]); first | done | rfl | (simp only [List.length_drop, List.length_take]; rfl)) ?_; (with_reducible refine (deci_Parse.calls k (⟨#[49, 50, 46, 53, 48]⟩ : ByteArray) t274 t275 t276 _ A1.out).mono ?_); rintro e w24 ⟨rfl, hb⟩; refine ⟨_, rfl, ?_⟩; have n0_ := Aside0.mk (below_step (by repeat (first | (with_reducible first | exact HB.out | apply below_alloc | apply pw_below_drewN | apply below_drew1) | exact HB.out)) hb); clear HB; have HB := n0_; clear n0_; (try clear hb); (try clear hb2); (try clear hk); (try clear hi)) | ((with_reducible refine gate_dst (N := 1) rfl ?_); refine box_event ?hg (N := 1) ?hd (cs := #[.int .i64 0, .int .i64 0]) (t := 23) ?hr ?_; (case hd => rfl); (case hg => rfl); (case hr => first | (go_simp; done) | (go_simp; rfl)); intro gb277 hg w25 hbox hb; have n0_ := Aside0.mk (below_step (by repeat (first | (with_reducible first | exact HB.out | apply below_alloc | apply pw_below_drewN | apply below_drew1) | exact HB.out)) hb); have n1_ := Aside0.mk (hbox); have n2_ := Aside0.mk ((by rw [hg]; exact (below_size (by repeat (first | (with_reducible first | exact HB.out | apply below_alloc | apply pw_below_drewN | apply below_drew1) | exact HB.out))) : w.heap.size ≤ gb277)); have n3_ := Aside0.mk ((by rw [hg]; exact (below_size (by repeat (first | (with_reducible first | exact HB.out | apply below_alloc | apply pw_below_drewN | apply below_drew1) | exact HB.out))) : w.heap.size ≤ gb277)); clear HB; have HB := n0_; have BK277 := n1_; have GW277 := n2_; have GE277 := n3_; clear n0_ n1_ n2_ n3_; clear hb hbox hg; have hcz26_0 : w25.cell? ⟨gb277, 0, none⟩ = some (.int .i64 0) := (blk_cell BK277.out 0).trans rfl; have hcz26_1 : w25.cell? ⟨gb277, 1, none⟩ = some (.int .i64 0) := (blk_cell BK277.out 1).trans rfl; have hfz26_0 := blk_frozen BK277.out 0; have hfz26_1 := blk_frozen BK277.out 1) | ((with_reducible refine gate_callee (f := 52) rfl ?_); refine goesL_ (some 13) rfl rfl Tryz.func52 (by kernel_rfl) rfl #[.agg #[.int .i64 t274, .int .i64 t275]] rfl (by (try simp only [List.map_toArray, List.map_cons, List.map_nil]); first | done | rfl | (simp only [List.length_drop, List.length_take]; rfl)) ?_; (with_reducible refine (deci_Text.calls k t274 t275 t278 t279 _ ?side1 A2.out).mono ?_); (case side1 => exact tabs_of HT.out (by repeat (first | (with_reducible first | exact HB.out | apply below_alloc | apply pw_below_drewN | apply below_drew1 | refine below_set ?_ GE277.out) | exact HB.out))); rintro e w27 ⟨rfl, hb⟩; refine ⟨_, rfl, ?_⟩; have n0_ := Aside0.mk (blk_below (g := gb277) (o := .cells #[.int .i64 t274, .int .i64 t275] 23 (0, 0)) (by (with_reducible repeat (first | refine blk_drewN ?_ _ | refine blk_drew ?_ | refine blk_alloc ?_ _)); refine blk_put (cs := #[.int .i64 t274, .int .i64 0]) ?_ 1 _ rfl; (with_reducible repeat (first | refine blk_drewN ?_ _ | refine blk_drew ?_ | refine blk_alloc ?_ _)); refine blk_put (cs := #[.int .i64 0, .int .i64 0]) ?_ 0 _ rfl; (with_reducible repeat (first | refine blk_drewN ?_ _ | refine blk_drew ?_ | refine blk_alloc ?_ _)); exact BK277.out) hb); have n1_ := Aside0.mk (below_step (by repeat (first | (with_reducible first | exact HB.out | apply below_alloc | apply pw_below_drewN | apply below_drew1 | refine below_set ?_ GE277.out) | exact HB.out)) hb); clear BK277; clear HB; have BK277 := n0_; have HB := n1_; clear n0_ n1_; (try clear hb); (try clear hb2); (try clear hk); (try clear hi)) | ((with_reducible refine gate_callee (f := 53) rfl ?_); refine goesL_ (some 19) rfl rfl Tryz.func53 (by kernel_rfl) rfl #[.agg #[.int .i64 2, .int .i64 0], .agg #[.int .i64 3, .int .i64 0]] rfl (by (try simp only [List.map_toArray, List.map_cons, List.map_nil]); first | done | rfl | (simp only [List.length_drop, List.length_take]; rfl)) ?_; (with_reducible refine (deci_Div.calls k 2 0 3 0 t280 t281 t282 _ A3.out).mono ?_); rintro e w28 ⟨rfl, hb⟩; refine ⟨_, rfl, ?_⟩; have n0_ := Aside0.mk (blk_below (g := gb277) (o := .cells #[.int .i64 t274, .int .i64 t275] 23 (0, 0)) (by (with_reducible repeat (first | refine blk_drewN ?_ _ | refine blk_drew ?_ | refine blk_alloc ?_ _)); exact BK277.out) hb); have n1_ := Aside0.mk (below_step (by repeat (first | (with_reducible first | exact HB.out | apply below_alloc | apply pw_below_drewN | apply below_drew1 | refine below_set ?_ GE277.out) | exact HB.out)) hb); clear BK277; clear HB; have BK277 := n0_; have HB := n1_; clear n0_ n1_; (try clear hb); (try clear hb2); (try clear hk); (try clear hi)) | ((with_reducible refine gate_dst (N := 5) rfl ?_); refine box_event ?hg (N := 5) ?hd (cs := #[.int .i64 0, .int .i64 0]) (t := 23) ?hr ?_; (case hd => rfl); (case hg => rfl); (case hr => first | (go_simp; done) | (go_simp; rfl)); intro gb283 hg w29 hbox hb; have n0_ := Aside0.mk (blk_below (g := gb277) (o := .cells #[.int .i64 t274, .int .i64 t275] 23 (0, 0)) (by (with_reducible repeat (first | refine blk_drewN ?_ _ | refine blk_drew ?_ | refine blk_alloc ?_ _)); exact BK277.out) hb); have n1_ := Aside0.mk (below_step (by repeat (first | (with_reducible first | exact HB.out | apply below_alloc | apply pw_below_drewN | apply below_drew1 | refine below_set ?_ GE277.out) | exact HB.out)) hb); have n2_ := Aside0.mk (hbox); have n3_ := Aside0.mk ((by rw [hg]; exact (below_size (by repeat (first | (with_reducible first | exact HB.out | apply below_alloc | apply pw_below_drewN | apply below_drew1 | refine below_set ?_ GE277.out) | exact HB.out))) : w.heap.size ≤ gb283)); have n4_ := Aside0.mk ((by rw [hg]; exact (below_size (by repeat (first | (with_reducible first | exact HB.out | apply below_alloc | apply pw_below_drewN | apply below_drew1 | refine below_set ?_ GE277.out) | exact HB.out))) : w.heap.size ≤ gb283)); have n5_ := Aside0.mk ((by rw [hg]; exact Nat.ne_of_lt (blk_lt (g := gb277) (o := .cells #[.int .i64 t274, .int .i64 t275] 23 (0, 0)) (by (with_reducible repeat (first | refine blk_drewN ?_ _ | refine blk_drew ?_ | refine blk_alloc ?_ _)); exact BK277.out)) : gb277 ≠ gb283)); have n6_ := Aside0.mk ((by rw [hg]; exact Nat.ne_of_gt (blk_lt (g := gb277) (o := .cells #[.int .i64 t274, .int .i64 t275] 23 (0, 0)) (by (with_reducible repeat (first | refine blk_drewN ?_ _ | refine blk_drew ?_ | refine blk_alloc ?_ _)); exact BK277.out)) : gb283 ≠ gb277)); clear BK277; clear HB; have BK277 := n0_; have HB := n1_; have BK283 := n2_; have GW283 := n3_; have GE283 := n4_; have NB277_283 := n5_; have NB283_277 := n6_; clear n0_ n1_ n2_ n3_ n4_ n5_ n6_; clear hb hbox hg; have hnb30 := NB283_277.out; have hnc30 := NB277_283.out; have hcz31_0 : w29.cell? ⟨gb283, 0, none⟩ = some (.int .i64 0) := (blk_cell BK283.out 0).trans rfl; have hcz31_1 : w29.cell? ⟨gb283, 1, none⟩ = some (.int .i64 0) := (blk_cell BK283.out 1).trans rfl; have hfz31_0 := blk_frozen BK283.out 0; have hfz31_1 := blk_frozen BK283.out 1))
        go_ret
        exact ⟨by first | rfl | (simp [errW_none, errW_some] <;> rfl) | (simp [*, errW_none, errW_some] <;> rfl), by repeat (first | (with_reducible first | exact HB.out | apply below_alloc | apply pw_below_drewN | apply below_drew1 | refine below_set ?_ GE277.out | refine below_set ?_ GE283.out) | exact HB.out)⟩
    · rw [if_neg c5] at H
      have c5b0 : (t279 == 0) = false := beq_eq_false_iff_ne.mpr c5
      have c5b1 : (t279 != 0) = true := bne_iff_ne.mpr c5
      obtain rfl := Option.some.inj H
      go_enter Tryz.func19, Tryz.ntmps19
      go_wp2_with (first | ((with_reducible refine gate_callee (f := 51) rfl ?_); refine goesL_ (some 8) rfl rfl Tryz.func51 (by kernel_rfl) rfl #[.string (⟨#[49, 50, 46, 53, 48]⟩ : ByteArray)] rfl (by (try simp only [List.map_toArray, List.map_cons, List.map_nil]); first | done | rfl | (simp only [List.length_drop, List.length_take]; rfl)) ?_; (with_reducible refine (deci_Parse.calls k (⟨#[49, 50, 46, 53, 48]⟩ : ByteArray) t274 t275 t276 _ A1.out).mono ?_); rintro e w32 ⟨rfl, hb⟩; refine ⟨_, rfl, ?_⟩; have n0_ := Aside0.mk (below_step (by repeat (first | (with_reducible first | exact HB.out | apply below_alloc | apply pw_below_drewN | apply below_drew1) | exact HB.out)) hb); clear HB; have HB := n0_; clear n0_; (try clear hb); (try clear hb2); (try clear hk); (try clear hi)) | ((with_reducible refine gate_dst (N := 1) rfl ?_); refine box_event ?hg (N := 1) ?hd (cs := #[.int .i64 0, .int .i64 0]) (t := 23) ?hr ?_; (case hd => rfl); (case hg => rfl); (case hr => first | (go_simp; done) | (go_simp; rfl)); intro gb277 hg w33 hbox hb; have n0_ := Aside0.mk (below_step (by repeat (first | (with_reducible first | exact HB.out | apply below_alloc | apply pw_below_drewN | apply below_drew1) | exact HB.out)) hb); have n1_ := Aside0.mk (hbox); have n2_ := Aside0.mk ((by rw [hg]; exact (below_size (by repeat (first | (with_reducible first | exact HB.out | apply below_alloc | apply pw_below_drewN | apply below_drew1) | exact HB.out))) : w.heap.size ≤ gb277)); have n3_ := Aside0.mk ((by rw [hg]; exact (below_size (by repeat (first | (with_reducible first | exact HB.out | apply below_alloc | apply pw_below_drewN | apply below_drew1) | exact HB.out))) : w.heap.size ≤ gb277)); clear HB; have HB := n0_; have BK277 := n1_; have GW277 := n2_; have GE277 := n3_; clear n0_ n1_ n2_ n3_; clear hb hbox hg; have hcz34_0 : w33.cell? ⟨gb277, 0, none⟩ = some (.int .i64 0) := (blk_cell BK277.out 0).trans rfl; have hcz34_1 : w33.cell? ⟨gb277, 1, none⟩ = some (.int .i64 0) := (blk_cell BK277.out 1).trans rfl; have hfz34_0 := blk_frozen BK277.out 0; have hfz34_1 := blk_frozen BK277.out 1) | ((with_reducible refine gate_callee (f := 52) rfl ?_); refine goesL_ (some 13) rfl rfl Tryz.func52 (by kernel_rfl) rfl #[.agg #[.int .i64 t274, .int .i64 t275]] rfl (by (try simp only [List.map_toArray, List.map_cons, List.map_nil]); first | done | rfl | (simp only [List.length_drop, List.length_take]; rfl)) ?_; (with_reducible refine (deci_Text.calls k t274 t275 t278 t279 _ ?side1 A2.out).mono ?_); (case side1 => exact tabs_of HT.out (by repeat (first | (with_reducible first | exact HB.out | apply below_alloc | apply pw_below_drewN | apply below_drew1 | refine below_set ?_ GE277.out) | exact HB.out))); rintro e w35 ⟨rfl, hb⟩; refine ⟨_, rfl, ?_⟩; have n0_ := Aside0.mk (blk_below (g := gb277) (o := .cells #[.int .i64 t274, .int .i64 t275] 23 (0, 0)) (by (with_reducible repeat (first | refine blk_drewN ?_ _ | refine blk_drew ?_ | refine blk_alloc ?_ _)); refine blk_put (cs := #[.int .i64 t274, .int .i64 0]) ?_ 1 _ rfl; (with_reducible repeat (first | refine blk_drewN ?_ _ | refine blk_drew ?_ | refine blk_alloc ?_ _)); refine blk_put (cs := #[.int .i64 0, .int .i64 0]) ?_ 0 _ rfl; (with_reducible repeat (first | refine blk_drewN ?_ _ | refine blk_drew ?_ | refine blk_alloc ?_ _)); exact BK277.out) hb); have n1_ := Aside0.mk (below_step (by repeat (first | (with_reducible first | exact HB.out | apply below_alloc | apply pw_below_drewN | apply below_drew1 | refine below_set ?_ GE277.out) | exact HB.out)) hb); clear BK277; clear HB; have BK277 := n0_; have HB := n1_; clear n0_ n1_; (try clear hb); (try clear hb2); (try clear hk); (try clear hi)) | ((with_reducible refine gate_callee (f := 53) rfl ?_); refine goesL_ (some 19) rfl rfl Tryz.func53 (by kernel_rfl) rfl #[.agg #[.int .i64 2, .int .i64 0], .agg #[.int .i64 3, .int .i64 0]] rfl (by (try simp only [List.map_toArray, List.map_cons, List.map_nil]); first | done | rfl | (simp only [List.length_drop, List.length_take]; rfl)) ?_; (with_reducible refine (deci_Div.calls k 2 0 3 0 t280 t281 t282 _ A3.out).mono ?_); rintro e w36 ⟨rfl, hb⟩; refine ⟨_, rfl, ?_⟩; have n0_ := Aside0.mk (blk_below (g := gb277) (o := .cells #[.int .i64 t274, .int .i64 t275] 23 (0, 0)) (by (with_reducible repeat (first | refine blk_drewN ?_ _ | refine blk_drew ?_ | refine blk_alloc ?_ _)); exact BK277.out) hb); have n1_ := Aside0.mk (below_step (by repeat (first | (with_reducible first | exact HB.out | apply below_alloc | apply pw_below_drewN | apply below_drew1 | refine below_set ?_ GE277.out) | exact HB.out)) hb); clear BK277; clear HB; have BK277 := n0_; have HB := n1_; clear n0_ n1_; (try clear hb); (try clear hb2); (try clear hk); (try clear hi)) | ((with_reducible refine gate_dst (N := 5) rfl ?_); refine box_event ?hg (N := 5) ?hd (cs := #[.int .i64 0, .int .i64 0]) (t := 23) ?hr ?_; (case hd => rfl); (case hg => rfl); (case hr => first | (go_simp; done) | (go_simp; rfl)); intro gb283 hg w37 hbox hb; have n0_ := Aside0.mk (blk_below (g := gb277) (o := .cells #[.int .i64 t274, .int .i64 t275] 23 (0, 0)) (by (with_reducible repeat (first | refine blk_drewN ?_ _ | refine blk_drew ?_ | refine blk_alloc ?_ _)); exact BK277.out) hb); have n1_ := Aside0.mk (below_step (by repeat (first | (with_reducible first | exact HB.out | apply below_alloc | apply pw_below_drewN | apply below_drew1 | refine below_set ?_ GE277.out) | exact HB.out)) hb); have n2_ := Aside0.mk (hbox); have n3_ := Aside0.mk ((by rw [hg]; exact (below_size (by repeat (first | (with_reducible first | exact HB.out | apply below_alloc | apply pw_below_drewN | apply below_drew1 | refine below_set ?_ GE277.out) | exact HB.out))) : w.heap.size ≤ gb283)); have n4_ := Aside0.mk ((by rw [hg]; exact (below_size (by repeat (first | (with_reducible first | exact HB.out | apply below_alloc | apply pw_below_drewN | apply below_drew1 | refine below_set ?_ GE277.out) | exact HB.out))) : w.heap.size ≤ gb283)); have n5_ := Aside0.mk ((by rw [hg]; exact Nat.ne_of_lt (blk_lt (g := gb277) (o := .cells #[.int .i64 t274, .int .i64 t275] 23 (0, 0)) (by (with_reducible repeat (first | refine blk_drewN ?_ _ | refine blk_drew ?_ | refine blk_alloc ?_ _)); exact BK277.out)) : gb277 ≠ gb283)); have n6_ := Aside0.mk ((by rw [hg]; exact Nat.ne_of_gt (blk_lt (g := gb277) (o := .cells #[.int .i64 t274, .int .i64 t275] 23 (0, 0)) (by (with_reducible repeat (first | refine blk_drewN ?_ _ | refine blk_drew ?_ | refine blk_alloc ?_ _)); exact BK277.out)) : gb283 ≠ gb277)); clear BK277; clear HB; have BK277 := n0_; have HB := n1_; have BK283 := n2_; have GW283 := n3_; have GE283 := n4_; have NB277_283 := n5_; have NB283_277 := n6_; clear n0_ n1_ n2_ n3_ n4_ n5_ n6_; clear hb hbox hg; have hnb38 := NB283_277.out; have hnc38 := NB277_283.out; have hcz39_0 : w37.cell? ⟨gb283, 0, none⟩ = some (.int .i64 0) := (blk_cell BK283.out 0).trans rfl; have hcz39_1 : w37.cell? ⟨gb283, 1, none⟩ = some (.int .i64 0) := (blk_cell BK283.out 1).trans rfl; have hfz39_0 := blk_frozen BK283.out 0; have hfz39_1 := blk_frozen BK283.out 1))
      go_ret
      exact ⟨by first | rfl | (simp [errW_none, errW_some] <;> rfl) | (simp [*, errW_none, errW_some] <;> rfl), by repeat (first | (with_reducible first | exact HB.out | apply below_alloc | apply pw_below_drewN | apply below_drew1 | refine below_set ?_ GE277.out | refine below_set ?_ GE283.out) | exact HB.out)⟩
  · rw [if_neg c4] at H
    have c4b0 : (t276 == 0) = false := beq_eq_false_iff_ne.mpr c4
    have c4b1 : (t276 != 0) = true := bne_iff_ne.mpr c4
    obtain rfl := Option.some.inj H
    go_enter Tryz.func19, Tryz.ntmps19
    go_wp2_with (first | ((with_reducible refine gate_callee (f := 51) rfl ?_); refine goesL_ (some 8) rfl rfl Tryz.func51 (by kernel_rfl) rfl #[.string (⟨#[49, 50, 46, 53, 48]⟩ : ByteArray)] rfl (by (try simp only [List.map_toArray, List.map_cons, List.map_nil]); first | done | rfl | (simp only [List.length_drop, List.length_take]; rfl)) ?_; (with_reducible refine (deci_Parse.calls k (⟨#[49, 50, 46, 53, 48]⟩ : ByteArray) t274 t275 t276 _ A1.out).mono ?_); rintro e w40 ⟨rfl, hb⟩; refine ⟨_, rfl, ?_⟩; have n0_ := Aside0.mk (below_step (by repeat (first | (with_reducible first | exact HB.out | apply below_alloc | apply pw_below_drewN | apply below_drew1) | exact HB.out)) hb); clear HB; have HB := n0_; clear n0_; (try clear hb); (try clear hb2); (try clear hk); (try clear hi)) | ((with_reducible refine gate_dst (N := 1) rfl ?_); refine box_event ?hg (N := 1) ?hd (cs := #[.int .i64 0, .int .i64 0]) (t := 23) ?hr ?_; (case hd => rfl); (case hg => rfl); (case hr => first | (go_simp; done) | (go_simp; rfl)); intro gb277 hg w41 hbox hb; have n0_ := Aside0.mk (below_step (by repeat (first | (with_reducible first | exact HB.out | apply below_alloc | apply pw_below_drewN | apply below_drew1) | exact HB.out)) hb); have n1_ := Aside0.mk (hbox); have n2_ := Aside0.mk ((by rw [hg]; exact (below_size (by repeat (first | (with_reducible first | exact HB.out | apply below_alloc | apply pw_below_drewN | apply below_drew1) | exact HB.out))) : w.heap.size ≤ gb277)); have n3_ := Aside0.mk ((by rw [hg]; exact (below_size (by repeat (first | (with_reducible first | exact HB.out | apply below_alloc | apply pw_below_drewN | apply below_drew1) | exact HB.out))) : w.heap.size ≤ gb277)); clear HB; have HB := n0_; have BK277 := n1_; have GW277 := n2_; have GE277 := n3_; clear n0_ n1_ n2_ n3_; clear hb hbox hg; have hcz42_0 : w41.cell? ⟨gb277, 0, none⟩ = some (.int .i64 0) := (blk_cell BK277.out 0).trans rfl; have hcz42_1 : w41.cell? ⟨gb277, 1, none⟩ = some (.int .i64 0) := (blk_cell BK277.out 1).trans rfl; have hfz42_0 := blk_frozen BK277.out 0; have hfz42_1 := blk_frozen BK277.out 1) | ((with_reducible refine gate_callee (f := 52) rfl ?_); refine goesL_ (some 13) rfl rfl Tryz.func52 (by kernel_rfl) rfl #[.agg #[.int .i64 t274, .int .i64 t275]] rfl (by (try simp only [List.map_toArray, List.map_cons, List.map_nil]); first | done | rfl | (simp only [List.length_drop, List.length_take]; rfl)) ?_; (with_reducible refine (deci_Text.calls k t274 t275 t278 t279 _ ?side1 A2.out).mono ?_); (case side1 => exact tabs_of HT.out (by repeat (first | (with_reducible first | exact HB.out | apply below_alloc | apply pw_below_drewN | apply below_drew1 | refine below_set ?_ GE277.out) | exact HB.out))); rintro e w43 ⟨rfl, hb⟩; refine ⟨_, rfl, ?_⟩; have n0_ := Aside0.mk (blk_below (g := gb277) (o := .cells #[.int .i64 t274, .int .i64 t275] 23 (0, 0)) (by (with_reducible repeat (first | refine blk_drewN ?_ _ | refine blk_drew ?_ | refine blk_alloc ?_ _)); refine blk_put (cs := #[.int .i64 t274, .int .i64 0]) ?_ 1 _ rfl; (with_reducible repeat (first | refine blk_drewN ?_ _ | refine blk_drew ?_ | refine blk_alloc ?_ _)); refine blk_put (cs := #[.int .i64 0, .int .i64 0]) ?_ 0 _ rfl; (with_reducible repeat (first | refine blk_drewN ?_ _ | refine blk_drew ?_ | refine blk_alloc ?_ _)); exact BK277.out) hb); have n1_ := Aside0.mk (below_step (by repeat (first | (with_reducible first | exact HB.out | apply below_alloc | apply pw_below_drewN | apply below_drew1 | refine below_set ?_ GE277.out) | exact HB.out)) hb); clear BK277; clear HB; have BK277 := n0_; have HB := n1_; clear n0_ n1_; (try clear hb); (try clear hb2); (try clear hk); (try clear hi)) | ((with_reducible refine gate_callee (f := 53) rfl ?_); refine goesL_ (some 19) rfl rfl Tryz.func53 (by kernel_rfl) rfl #[.agg #[.int .i64 2, .int .i64 0], .agg #[.int .i64 3, .int .i64 0]] rfl (by (try simp only [List.map_toArray, List.map_cons, List.map_nil]); first | done | rfl | (simp only [List.length_drop, List.length_take]; rfl)) ?_; (with_reducible refine (deci_Div.calls k 2 0 3 0 t280 t281 t282 _ A3.out).mono ?_); rintro e w44 ⟨rfl, hb⟩; refine ⟨_, rfl, ?_⟩; have n0_ := Aside0.mk (blk_below (g := gb277) (o := .cells #[.int .i64 t274, .int .i64 t275] 23 (0, 0)) (by (with_reducible repeat (first | refine blk_drewN ?_ _ | refine blk_drew ?_ | refine blk_alloc ?_ _)); exact BK277.out) hb); have n1_ := Aside0.mk (below_step (by repeat (first | (with_reducible first | exact HB.out | apply below_alloc | apply pw_below_drewN | apply below_drew1 | refine below_set ?_ GE277.out) | exact HB.out)) hb); clear BK277; clear HB; have BK277 := n0_; have HB := n1_; clear n0_ n1_; (try clear hb); (try clear hb2); (try clear hk); (try clear hi)) | ((with_reducible refine gate_dst (N := 5) rfl ?_); refine box_event ?hg (N := 5) ?hd (cs := #[.int .i64 0, .int .i64 0]) (t := 23) ?hr ?_; (case hd => rfl); (case hg => rfl); (case hr => first | (go_simp; done) | (go_simp; rfl)); intro gb283 hg w45 hbox hb; have n0_ := Aside0.mk (blk_below (g := gb277) (o := .cells #[.int .i64 t274, .int .i64 t275] 23 (0, 0)) (by (with_reducible repeat (first | refine blk_drewN ?_ _ | refine blk_drew ?_ | refine blk_alloc ?_ _)); exact BK277.out) hb); have n1_ := Aside0.mk (below_step (by repeat (first | (with_reducible first | exact HB.out | apply below_alloc | apply pw_below_drewN | apply below_drew1 | refine below_set ?_ GE277.out) | exact HB.out)) hb); have n2_ := Aside0.mk (hbox); have n3_ := Aside0.mk ((by rw [hg]; exact (below_size (by repeat (first | (with_reducible first | exact HB.out | apply below_alloc | apply pw_below_drewN | apply below_drew1 | refine below_set ?_ GE277.out) | exact HB.out))) : w.heap.size ≤ gb283)); have n4_ := Aside0.mk ((by rw [hg]; exact (below_size (by repeat (first | (with_reducible first | exact HB.out | apply below_alloc | apply pw_below_drewN | apply below_drew1 | refine below_set ?_ GE277.out) | exact HB.out))) : w.heap.size ≤ gb283)); have n5_ := Aside0.mk ((by rw [hg]; exact Nat.ne_of_lt (blk_lt (g := gb277) (o := .cells #[.int .i64 t274, .int .i64 t275] 23 (0, 0)) (by (with_reducible repeat (first | refine blk_drewN ?_ _ | refine blk_drew ?_ | refine blk_alloc ?_ _)); exact BK277.out)) : gb277 ≠ gb283)); have n6_ := Aside0.mk ((by rw [hg]; exact Nat.ne_of_gt (blk_lt (g := gb277) (o := .cells #[.int .i64 t274, .int .i64 t275] 23 (0, 0)) (by (with_reducible repeat (first | refine blk_drewN ?_ _ | refine blk_drew ?_ | refine blk_alloc ?_ _)); exact BK277.out)) : gb283 ≠ gb277)); clear BK277; clear HB; have BK277 := n0_; have HB := n1_; have BK283 := n2_; have GW283 := n3_; have GE283 := n4_; have NB277_283 := n5_; have NB283_277 := n6_; clear n0_ n1_ n2_ n3_ n4_ n5_ n6_; clear hb hbox hg; have hnb46 := NB283_277.out; have hnc46 := NB277_283.out; have hcz47_0 : w45.cell? ⟨gb283, 0, none⟩ = some (.int .i64 0) := (blk_cell BK283.out 0).trans rfl; have hcz47_1 : w45.cell? ⟨gb283, 1, none⟩ = some (.int .i64 0) := (blk_cell BK283.out 1).trans rfl; have hfz47_0 := blk_frozen BK283.out 0; have hfz47_1 := blk_frozen BK283.out 1))
    go_ret
    exact ⟨by first | rfl | (simp [errW_none, errW_some] <;> rfl) | (simp [*, errW_none, errW_some] <;> rfl), by repeat (first | (with_reducible first | exact HB.out | apply below_alloc | apply pw_below_drewN | apply below_drew1 | refine below_set ?_ GE277.out | refine below_set ?_ GE283.out) | exact HB.out)⟩
end Go.Proofs.YtgkemhgihbfmmaaGreatDoor.PA
end
section
namespace Go.Proofs.YtgkemhgihbfmmaaGreatDoor.PA
open Go.RowKit Go.Proofs.YtgkemhgihbfmmaaGreatDoorW.PrintWords Go.Proofs.YtgkemhgihbfmmaaGreatDoorW.PrintLast Go.Proofs.YtgkemhgihbfmmaaGreatDoorW.PrintMore
attribute [local go_sem] max2_int min2_int max_two min_two max_three min_three max_four min_four
set_option linter.unusedVariables false
set_option linter.unusedSimpArgs false
attribute [local go_sem high] eqA23
def soffitlaw01_DeciAdds.f (k : Nat) (a0_0 : Int) (a0_1 : Int) (a1_0 : Int) (a1_1 : Int) : Option (Bool) := (deci_Add.f k a0_0 a0_1 a1_0 a1_1).bind fun bt286 => ((soffitref01_Add.f k a0_0 a0_1 a1_0 a1_1).bind fun bt290 => ((soffitlaw01_awake.f k).bind fun t294 => (if t294 = true then (if (bt286.1 == bt290.1 && (bt286.2.1 == bt290.2.1)) = true then (some (bt286.2.2 == bt290.2.2)) else (some false)) else (some false))))
theorem soffitlaw01_DeciAdds.mono : ∀ a0 a1 a2 a3 k, LeO (soffitlaw01_DeciAdds.f k a0 a1 a2 a3) (soffitlaw01_DeciAdds.f (k + 1) a0 a1 a2 a3) := by
  intro a0 a1 a2 a3 k
  unfold soffitlaw01_DeciAdds.f
  repeat' first
      | (with_reducible exact deci_Add.mono _ _ _ _ _)
      | (with_reducible exact soffitlaw01_awake.mono _)
      | (with_reducible exact soffitref01_Add.mono _ _ _ _ _)
      | (with_reducible exact LeO.refl _)
      | (with_reducible exact LeO.none _)
      | (with_reducible refine LeO.ite ?_ ?_)
      | (with_reducible refine LeO.bind ?_ (fun _ => ?_))
      | exact deci_Add.mono _ _ _ _ _
      | exact soffitlaw01_awake.mono _
      | exact soffitref01_Add.mono _ _ _ _ _
      | exact LeO.none _
      | refine LeO.ite ?_ ?_
      | refine LeO.bind ?_ (fun _ => ?_)
set_option maxHeartbeats 8000000 in
set_option maxRecDepth 100000 in
theorem soffitlaw01_DeciAdds.calls (k : Nat) (a0_0 : Int) (a0_1 : Int) (a1_0 : Int) (a1_1 : Int) (r : Bool) (w : World) (hT : Tabs w) (hr : r = true) (h : soffitlaw01_DeciAdds.f k a0_0 a0_1 a1_0 a1_1 = some r) :
    Calls Tryz.prog 5 #[.agg #[.int .i64 a0_0, .int .i64 a0_1], .agg #[.int .i64 a1_0, .int .i64 a1_1]] w fun e w' => e = .returned (.bool r) ∧ Below w.heap.size w w' := by
  have hu23 := Tryz.underlying23
  have HT := Aside0.mk hT
  clear hT
  have HR := Aside0.mk hr
  clear hr
  have HB := Aside0.mk (Below.refl w.heap.size w)
  have H : ((deci_Add.f k a0_0 a0_1 a1_0 a1_1).bind fun bt286 => ((soffitref01_Add.f k a0_0 a0_1 a1_0 a1_1).bind fun bt290 => ((soffitlaw01_awake.f k).bind fun t294 => (if t294 = true then (if (bt286.1 == bt290.1 && (bt286.2.1 == bt290.2.1)) = true then (some (bt286.2.2 == bt290.2.2)) else (some false)) else (some false))))) = some r := h
  clear h
  replace H := Option.bind_eq_some_iff.mp H
  obtain ⟨⟨t286, t287, t288⟩, A30, H⟩ := H
  replace H : ((soffitref01_Add.f k a0_0 a0_1 a1_0 a1_1).bind fun bt290 => ((soffitlaw01_awake.f k).bind fun t294 => (if t294 = true then (if (t286 == bt290.1 && (t287 == bt290.2.1)) = true then (some (t288 == bt290.2.2)) else (some false)) else (some false)))) = some r := H
  have A3 := Aside0.mk A30
  clear A30
  replace H := Option.bind_eq_some_iff.mp H
  obtain ⟨⟨t290, t291, t292⟩, A40, H⟩ := H
  replace H : ((soffitlaw01_awake.f k).bind fun t294 => (if t294 = true then (if (t286 == t290 && (t287 == t291)) = true then (some (t288 == t292)) else (some false)) else (some false))) = some r := H
  have A4 := Aside0.mk A40
  clear A40
  replace H := Option.bind_eq_some_iff.mp H
  obtain ⟨t294, A50, H⟩ := H
  replace H : (if t294 = true then (if (t286 == t290 && (t287 == t291)) = true then (some (t288 == t292)) else (some false)) else (some false)) = some r := H
  have A5 := Aside0.mk A50
  clear A50
  by_cases c6 : t294 = true
  · subst c6
    have H1 : (if (t286 == t290 && (t287 == t291)) = true then (some (t288 == t292)) else (some false)) = some r := by rw [if_pos rfl] at H; exact H
    clear H
    have H := H1
    clear H1
    by_cases c7 : (t286 == t290 && (t287 == t291)) = true
    · rw [if_pos c7] at H
      have c7b0 : (t286 == t290 && (t287 == t291)) = true := c7
      (try (have c7b1 : decide (t286 = t290 && (t287 == t291)) = true := by simpa using c7))
      (try (have c7b2 : (t286 == t290 && (t287 == t291)) = true := by simpa using c7))
      clear c7
      obtain rfl := Option.some.inj H
      go_enter Tryz.func5, Tryz.ntmps5
      go_wp2_with (first | ((with_reducible refine gate_dst (N := 2) rfl ?_); refine box_event ?hg (N := 2) ?hd (cs := #[.int .i64 a0_0, .int .i64 a0_1]) (t := 23) ?hr ?_; (case hd => rfl); (case hg => rfl); (case hr => first | (go_simp; done) | (go_simp; rfl)); intro gb284 hg w8 hbox hb; have n0_ := Aside0.mk (below_step (by repeat (first | (with_reducible first | exact HB.out | apply below_alloc | apply pw_below_drewN | apply below_drew1) | exact HB.out)) hb); have n1_ := Aside0.mk (hbox); have n2_ := Aside0.mk ((by rw [hg]; exact (below_size (by repeat (first | (with_reducible first | exact HB.out | apply below_alloc | apply pw_below_drewN | apply below_drew1) | exact HB.out))) : w.heap.size ≤ gb284)); have n3_ := Aside0.mk ((by rw [hg]; exact (below_size (by repeat (first | (with_reducible first | exact HB.out | apply below_alloc | apply pw_below_drewN | apply below_drew1) | exact HB.out))) : w.heap.size ≤ gb284)); clear HB; have HB := n0_; have BK284 := n1_; have GW284 := n2_; have GE284 := n3_; clear n0_ n1_ n2_ n3_; clear hb hbox hg) | ((with_reducible refine gate_dst (N := 3) rfl ?_); refine box_event ?hg (N := 3) ?hd (cs := #[.int .i64 a1_0, .int .i64 a1_1]) (t := 23) ?hr ?_; (case hd => rfl); (case hg => rfl); (case hr => first | (go_simp; done) | (go_simp; rfl)); intro gb285 hg w9 hbox hb; have n0_ := Aside0.mk (blk_below (g := gb284) (o := .cells #[.int .i64 a0_0, .int .i64 a0_1] 23 (0, 0)) (by (with_reducible repeat (first | refine blk_drewN ?_ _ | refine blk_drew ?_ | refine blk_alloc ?_ _)); exact BK284.out) hb); have n1_ := Aside0.mk (below_step (by repeat (first | (with_reducible first | exact HB.out | apply below_alloc | apply pw_below_drewN | apply below_drew1 | refine below_set ?_ GE284.out) | exact HB.out)) hb); have n2_ := Aside0.mk (hbox); have n3_ := Aside0.mk ((by rw [hg]; exact (below_size (by repeat (first | (with_reducible first | exact HB.out | apply below_alloc | apply pw_below_drewN | apply below_drew1 | refine below_set ?_ GE284.out) | exact HB.out))) : w.heap.size ≤ gb285)); have n4_ := Aside0.mk ((by rw [hg]; exact (below_size (by repeat (first | (with_reducible first | exact HB.out | apply below_alloc | apply pw_below_drewN | apply below_drew1 | refine below_set ?_ GE284.out) | exact HB.out))) : w.heap.size ≤ gb285)); have n5_ := Aside0.mk ((by rw [hg]; exact Nat.ne_of_lt (blk_lt (g := gb284) (o := .cells #[.int .i64 a0_0, .int .i64 a0_1] 23 (0, 0)) (by (with_reducible repeat (first | refine blk_drewN ?_ _ | refine blk_drew ?_ | refine blk_alloc ?_ _)); exact BK284.out)) : gb284 ≠ gb285)); have n6_ := Aside0.mk ((by rw [hg]; exact Nat.ne_of_gt (blk_lt (g := gb284) (o := .cells #[.int .i64 a0_0, .int .i64 a0_1] 23 (0, 0)) (by (with_reducible repeat (first | refine blk_drewN ?_ _ | refine blk_drew ?_ | refine blk_alloc ?_ _)); exact BK284.out)) : gb285 ≠ gb284)); clear BK284; clear HB; have BK284 := n0_; have HB := n1_; have BK285 := n2_; have GW285 := n3_; have GE285 := n4_; have NB284_285 := n5_; have NB285_284 := n6_; clear n0_ n1_ n2_ n3_ n4_ n5_ n6_; clear hb hbox hg; have hnb10 := NB284_285.out; have hnc10 := NB285_284.out; have hcz11_0 : w9.cell? ⟨gb284, 0, none⟩ = some (.int .i64 a0_0) := (blk_cell BK284.out 0).trans rfl; have hcz11_1 : w9.cell? ⟨gb284, 1, none⟩ = some (.int .i64 a0_1) := (blk_cell BK284.out 1).trans rfl; have hfz11_0 := blk_frozen BK284.out 0; have hfz11_1 := blk_frozen BK284.out 1; have hcz12_0 : w9.cell? ⟨gb285, 0, none⟩ = some (.int .i64 a1_0) := (blk_cell BK285.out 0).trans rfl; have hcz12_1 : w9.cell? ⟨gb285, 1, none⟩ = some (.int .i64 a1_1) := (blk_cell BK285.out 1).trans rfl; have hfz12_0 := blk_frozen BK285.out 0; have hfz12_1 := blk_frozen BK285.out 1) | ((with_reducible refine gate_callee (f := 17) rfl ?_); refine goesL_ (some 12) rfl rfl Tryz.func17 (by kernel_rfl) rfl #[.agg #[.int .i64 a0_0, .int .i64 a0_1], .agg #[.int .i64 a1_0, .int .i64 a1_1]] rfl (by (try simp only [List.map_toArray, List.map_cons, List.map_nil]); first | done | rfl | (simp only [List.length_drop, List.length_take]; rfl)) ?_; (with_reducible refine (deci_Add.calls k a0_0 a0_1 a1_0 a1_1 t286 t287 t288 _ A3.out).mono ?_); rintro e w13 ⟨rfl, hb⟩; refine ⟨_, rfl, ?_⟩; have n0_ := Aside0.mk (blk_below (g := gb284) (o := .cells #[.int .i64 a0_0, .int .i64 a0_1] 23 (0, 0)) (by (with_reducible repeat (first | refine blk_drewN ?_ _ | refine blk_drew ?_ | refine blk_alloc ?_ _)); exact BK284.out) hb); have n1_ := Aside0.mk (blk_below (g := gb285) (o := .cells #[.int .i64 a1_0, .int .i64 a1_1] 23 (0, 0)) (by (with_reducible repeat (first | refine blk_drewN ?_ _ | refine blk_drew ?_ | refine blk_alloc ?_ _)); exact BK285.out) hb); have n2_ := Aside0.mk (below_step (by repeat (first | (with_reducible first | exact HB.out | apply below_alloc | apply pw_below_drewN | apply below_drew1 | refine below_set ?_ GE284.out | refine below_set ?_ GE285.out) | exact HB.out)) hb); clear BK284; clear BK285; clear HB; have BK284 := n0_; have BK285 := n1_; have HB := n2_; clear n0_ n1_ n2_; (try clear hb); (try clear hb2); (try clear hk); (try clear hi)) | ((with_reducible refine gate_dst (N := 5) rfl ?_); refine box_event ?hg (N := 5) ?hd (cs := #[.int .i64 0, .int .i64 0]) (t := 23) ?hr ?_; (case hd => rfl); (case hg => rfl); (case hr => first | (go_simp; done) | (go_simp; rfl)); intro gb289 hg w14 hbox hb; have n0_ := Aside0.mk (blk_below (g := gb284) (o := .cells #[.int .i64 a0_0, .int .i64 a0_1] 23 (0, 0)) (by (with_reducible repeat (first | refine blk_drewN ?_ _ | refine blk_drew ?_ | refine blk_alloc ?_ _)); exact BK284.out) hb); have n1_ := Aside0.mk (blk_below (g := gb285) (o := .cells #[.int .i64 a1_0, .int .i64 a1_1] 23 (0, 0)) (by (with_reducible repeat (first | refine blk_drewN ?_ _ | refine blk_drew ?_ | refine blk_alloc ?_ _)); exact BK285.out) hb); have n2_ := Aside0.mk (below_step (by repeat (first | (with_reducible first | exact HB.out | apply below_alloc | apply pw_below_drewN | apply below_drew1 | refine below_set ?_ GE284.out | refine below_set ?_ GE285.out) | exact HB.out)) hb); have n3_ := Aside0.mk (hbox); have n4_ := Aside0.mk ((by rw [hg]; exact (below_size (by repeat (first | (with_reducible first | exact HB.out | apply below_alloc | apply pw_below_drewN | apply below_drew1 | refine below_set ?_ GE284.out | refine below_set ?_ GE285.out) | exact HB.out))) : w.heap.size ≤ gb289)); have n5_ := Aside0.mk ((by rw [hg]; exact (below_size (by repeat (first | (with_reducible first | exact HB.out | apply below_alloc | apply pw_below_drewN | apply below_drew1 | refine below_set ?_ GE284.out | refine below_set ?_ GE285.out) | exact HB.out))) : w.heap.size ≤ gb289)); have n6_ := Aside0.mk ((by rw [hg]; exact Nat.ne_of_lt (blk_lt (g := gb284) (o := .cells #[.int .i64 a0_0, .int .i64 a0_1] 23 (0, 0)) (by (with_reducible repeat (first | refine blk_drewN ?_ _ | refine blk_drew ?_ | refine blk_alloc ?_ _)); exact BK284.out)) : gb284 ≠ gb289)); have n7_ := Aside0.mk ((by rw [hg]; exact Nat.ne_of_gt (blk_lt (g := gb284) (o := .cells #[.int .i64 a0_0, .int .i64 a0_1] 23 (0, 0)) (by (with_reducible repeat (first | refine blk_drewN ?_ _ | refine blk_drew ?_ | refine blk_alloc ?_ _)); exact BK284.out)) : gb289 ≠ gb284)); have n8_ := Aside0.mk ((by rw [hg]; exact Nat.ne_of_lt (blk_lt (g := gb285) (o := .cells #[.int .i64 a1_0, .int .i64 a1_1] 23 (0, 0)) (by (with_reducible repeat (first | refine blk_drewN ?_ _ | refine blk_drew ?_ | refine blk_alloc ?_ _)); exact BK285.out)) : gb285 ≠ gb289)); have n9_ := Aside0.mk ((by rw [hg]; exact Nat.ne_of_gt (blk_lt (g := gb285) (o := .cells #[.int .i64 a1_0, .int .i64 a1_1] 23 (0, 0)) (by (with_reducible repeat (first | refine blk_drewN ?_ _ | refine blk_drew ?_ | refine blk_alloc ?_ _)); exact BK285.out)) : gb289 ≠ gb285)); clear BK284; clear BK285; clear HB; have BK284 := n0_; have BK285 := n1_; have HB := n2_; have BK289 := n3_; have GW289 := n4_; have GE289 := n5_; have NB284_289 := n6_; have NB289_284 := n7_; have NB285_289 := n8_; have NB289_285 := n9_; clear n0_ n1_ n2_ n3_ n4_ n5_ n6_ n7_ n8_ n9_; clear hb hbox hg; have hnb15 := NB289_284.out; have hnc15 := NB284_289.out; have hnb16 := NB289_285.out; have hnc16 := NB285_289.out; have hcz17_0 : w14.cell? ⟨gb289, 0, none⟩ = some (.int .i64 0) := (blk_cell BK289.out 0).trans rfl; have hcz17_1 : w14.cell? ⟨gb289, 1, none⟩ = some (.int .i64 0) := (blk_cell BK289.out 1).trans rfl; have hfz17_0 := blk_frozen BK289.out 0; have hfz17_1 := blk_frozen BK289.out 1; have hcz18_0 : w14.cell? ⟨gb284, 0, none⟩ = some (.int .i64 a0_0) := (blk_cell BK284.out 0).trans rfl; have hcz18_1 : w14.cell? ⟨gb284, 1, none⟩ = some (.int .i64 a0_1) := (blk_cell BK284.out 1).trans rfl; have hfz18_0 := blk_frozen BK284.out 0; have hfz18_1 := blk_frozen BK284.out 1; have hcz19_0 : w14.cell? ⟨gb285, 0, none⟩ = some (.int .i64 a1_0) := (blk_cell BK285.out 0).trans rfl; have hcz19_1 : w14.cell? ⟨gb285, 1, none⟩ = some (.int .i64 a1_1) := (blk_cell BK285.out 1).trans rfl; have hfz19_0 := blk_frozen BK285.out 0; have hfz19_1 := blk_frozen BK285.out 1) | ((with_reducible refine gate_callee (f := 18) rfl ?_); refine goesL_ (some 18) rfl rfl Tryz.func18 (by kernel_rfl) rfl #[.agg #[.int .i64 a0_0, .int .i64 a0_1], .agg #[.int .i64 a1_0, .int .i64 a1_1]] rfl (by (try simp only [List.map_toArray, List.map_cons, List.map_nil]); first | done | rfl | (simp only [List.length_drop, List.length_take]; rfl)) ?_; (with_reducible refine (soffitref01_Add.calls k a0_0 a0_1 a1_0 a1_1 t290 t291 t292 _ A4.out).mono ?_); rintro e w20 ⟨rfl, hb⟩; refine ⟨_, rfl, ?_⟩; have n0_ := Aside0.mk (blk_below (g := gb284) (o := .cells #[.int .i64 a0_0, .int .i64 a0_1] 23 (0, 0)) (by (with_reducible repeat (first | refine blk_drewN ?_ _ | refine blk_drew ?_ | refine blk_alloc ?_ _)); refine blk_far ?_ NB284_289.out _; (with_reducible repeat (first | refine blk_drewN ?_ _ | refine blk_drew ?_ | refine blk_alloc ?_ _)); refine blk_far ?_ NB284_289.out _; (with_reducible repeat (first | refine blk_drewN ?_ _ | refine blk_drew ?_ | refine blk_alloc ?_ _)); exact BK284.out) hb); have n1_ := Aside0.mk (blk_below (g := gb285) (o := .cells #[.int .i64 a1_0, .int .i64 a1_1] 23 (0, 0)) (by (with_reducible repeat (first | refine blk_drewN ?_ _ | refine blk_drew ?_ | refine blk_alloc ?_ _)); refine blk_far ?_ NB285_289.out _; (with_reducible repeat (first | refine blk_drewN ?_ _ | refine blk_drew ?_ | refine blk_alloc ?_ _)); refine blk_far ?_ NB285_289.out _; (with_reducible repeat (first | refine blk_drewN ?_ _ | refine blk_drew ?_ | refine blk_alloc ?_ _)); exact BK285.out) hb); have n2_ := Aside0.mk (blk_below (g := gb289) (o := .cells #[.int .i64 t286, .int .i64 t287] 23 (0, 0)) (by (with_reducible repeat (first | refine blk_drewN ?_ _ | refine blk_drew ?_ | refine blk_alloc ?_ _)); refine blk_put (cs := #[.int .i64 t286, .int .i64 0]) ?_ 1 _ rfl; (with_reducible repeat (first | refine blk_drewN ?_ _ | refine blk_drew ?_ | refine blk_alloc ?_ _)); refine blk_put (cs := #[.int .i64 0, .int .i64 0]) ?_ 0 _ rfl; (with_reducible repeat (first | refine blk_drewN ?_ _ | refine blk_drew ?_ | refine blk_alloc ?_ _)); exact BK289.out) hb); have n3_ := Aside0.mk (below_step (by repeat (first | (with_reducible first | exact HB.out | apply below_alloc | apply pw_below_drewN | apply below_drew1 | refine below_set ?_ GE284.out | refine below_set ?_ GE285.out | refine below_set ?_ GE289.out) | exact HB.out)) hb); clear BK284; clear BK285; clear BK289; clear HB; have BK284 := n0_; have BK285 := n1_; have BK289 := n2_; have HB := n3_; clear n0_ n1_ n2_ n3_; (try clear hb); (try clear hb2); (try clear hk); (try clear hi)) | ((with_reducible refine gate_dst (N := 7) rfl ?_); refine box_event ?hg (N := 7) ?hd (cs := #[.int .i64 0, .int .i64 0]) (t := 23) ?hr ?_; (case hd => rfl); (case hg => rfl); (case hr => first | (go_simp; done) | (go_simp; rfl)); intro gb293 hg w21 hbox hb; have n0_ := Aside0.mk (blk_below (g := gb284) (o := .cells #[.int .i64 a0_0, .int .i64 a0_1] 23 (0, 0)) (by (with_reducible repeat (first | refine blk_drewN ?_ _ | refine blk_drew ?_ | refine blk_alloc ?_ _)); exact BK284.out) hb); have n1_ := Aside0.mk (blk_below (g := gb285) (o := .cells #[.int .i64 a1_0, .int .i64 a1_1] 23 (0, 0)) (by (with_reducible repeat (first | refine blk_drewN ?_ _ | refine blk_drew ?_ | refine blk_alloc ?_ _)); exact BK285.out) hb); have n2_ := Aside0.mk (blk_below (g := gb289) (o := .cells #[.int .i64 t286, .int .i64 t287] 23 (0, 0)) (by (with_reducible repeat (first | refine blk_drewN ?_ _ | refine blk_drew ?_ | refine blk_alloc ?_ _)); exact BK289.out) hb); have n3_ := Aside0.mk (below_step (by repeat (first | (with_reducible first | exact HB.out | apply below_alloc | apply pw_below_drewN | apply below_drew1 | refine below_set ?_ GE284.out | refine below_set ?_ GE285.out | refine below_set ?_ GE289.out) | exact HB.out)) hb); have n4_ := Aside0.mk (hbox); have n5_ := Aside0.mk ((by rw [hg]; exact (below_size (by repeat (first | (with_reducible first | exact HB.out | apply below_alloc | apply pw_below_drewN | apply below_drew1 | refine below_set ?_ GE284.out | refine below_set ?_ GE285.out | refine below_set ?_ GE289.out) | exact HB.out))) : w.heap.size ≤ gb293)); have n6_ := Aside0.mk ((by rw [hg]; exact (below_size (by repeat (first | (with_reducible first | exact HB.out | apply below_alloc | apply pw_below_drewN | apply below_drew1 | refine below_set ?_ GE284.out | refine below_set ?_ GE285.out | refine below_set ?_ GE289.out) | exact HB.out))) : w.heap.size ≤ gb293)); have n7_ := Aside0.mk ((by rw [hg]; exact Nat.ne_of_lt (blk_lt (g := gb284) (o := .cells #[.int .i64 a0_0, .int .i64 a0_1] 23 (0, 0)) (by (with_reducible repeat (first | refine blk_drewN ?_ _ | refine blk_drew ?_ | refine blk_alloc ?_ _)); exact BK284.out)) : gb284 ≠ gb293)); have n8_ := Aside0.mk ((by rw [hg]; exact Nat.ne_of_gt (blk_lt (g := gb284) (o := .cells #[.int .i64 a0_0, .int .i64 a0_1] 23 (0, 0)) (by (with_reducible repeat (first | refine blk_drewN ?_ _ | refine blk_drew ?_ | refine blk_alloc ?_ _)); exact BK284.out)) : gb293 ≠ gb284)); have n9_ := Aside0.mk ((by rw [hg]; exact Nat.ne_of_lt (blk_lt (g := gb285) (o := .cells #[.int .i64 a1_0, .int .i64 a1_1] 23 (0, 0)) (by (with_reducible repeat (first | refine blk_drewN ?_ _ | refine blk_drew ?_ | refine blk_alloc ?_ _)); exact BK285.out)) : gb285 ≠ gb293)); have n10_ := Aside0.mk ((by rw [hg]; exact Nat.ne_of_gt (blk_lt (g := gb285) (o := .cells #[.int .i64 a1_0, .int .i64 a1_1] 23 (0, 0)) (by (with_reducible repeat (first | refine blk_drewN ?_ _ | refine blk_drew ?_ | refine blk_alloc ?_ _)); exact BK285.out)) : gb293 ≠ gb285)); have n11_ := Aside0.mk ((by rw [hg]; exact Nat.ne_of_lt (blk_lt (g := gb289) (o := .cells #[.int .i64 t286, .int .i64 t287] 23 (0, 0)) (by (with_reducible repeat (first | refine blk_drewN ?_ _ | refine blk_drew ?_ | refine blk_alloc ?_ _)); exact BK289.out)) : gb289 ≠ gb293)); have n12_ := Aside0.mk ((by rw [hg]; exact Nat.ne_of_gt (blk_lt (g := gb289) (o := .cells #[.int .i64 t286, .int .i64 t287] 23 (0, 0)) (by (with_reducible repeat (first | refine blk_drewN ?_ _ | refine blk_drew ?_ | refine blk_alloc ?_ _)); exact BK289.out)) : gb293 ≠ gb289)); clear BK284; clear BK285; clear BK289; clear HB; have BK284 := n0_; have BK285 := n1_; have BK289 := n2_; have HB := n3_; have BK293 := n4_; have GW293 := n5_; have GE293 := n6_; have NB284_293 := n7_; have NB293_284 := n8_; have NB285_293 := n9_; have NB293_285 := n10_; have NB289_293 := n11_; have NB293_289 := n12_; clear n0_ n1_ n2_ n3_ n4_ n5_ n6_ n7_ n8_ n9_ n10_ n11_ n12_; clear hb hbox hg; have hnb22 := NB293_284.out; have hnc22 := NB284_293.out; have hnb23 := NB293_285.out; have hnc23 := NB285_293.out; have hnb24 := NB293_289.out; have hnc24 := NB289_293.out; have hcz25_0 : w21.cell? ⟨gb293, 0, none⟩ = some (.int .i64 0) := (blk_cell BK293.out 0).trans rfl; have hcz25_1 : w21.cell? ⟨gb293, 1, none⟩ = some (.int .i64 0) := (blk_cell BK293.out 1).trans rfl; have hfz25_0 := blk_frozen BK293.out 0; have hfz25_1 := blk_frozen BK293.out 1) | ((with_reducible refine gate_callee (f := 19) rfl ?_); refine goesL_ (some 21) rfl rfl Tryz.func19 (by kernel_rfl) rfl #[] rfl (by (try simp only [List.map_toArray, List.map_cons, List.map_nil]); first | done | rfl | (simp only [List.length_drop, List.length_take]; rfl)) ?_; (with_reducible refine (soffitlaw01_awake.calls k  true _ ?side1 A5.out).mono ?_); (case side1 => exact tabs_of HT.out (by repeat (first | (with_reducible first | exact HB.out | apply below_alloc | apply pw_below_drewN | apply below_drew1 | refine below_set ?_ GE284.out | refine below_set ?_ GE285.out | refine below_set ?_ GE289.out | refine below_set ?_ GE293.out) | exact HB.out))); rintro e w26 ⟨rfl, hb⟩; refine ⟨_, rfl, ?_⟩; have n0_ := Aside0.mk (blk_below (g := gb284) (o := .cells #[.int .i64 a0_0, .int .i64 a0_1] 23 (0, 0)) (by (with_reducible repeat (first | refine blk_drewN ?_ _ | refine blk_drew ?_ | refine blk_alloc ?_ _)); refine blk_far ?_ NB284_293.out _; (with_reducible repeat (first | refine blk_drewN ?_ _ | refine blk_drew ?_ | refine blk_alloc ?_ _)); refine blk_far ?_ NB284_293.out _; (with_reducible repeat (first | refine blk_drewN ?_ _ | refine blk_drew ?_ | refine blk_alloc ?_ _)); exact BK284.out) hb); have n1_ := Aside0.mk (blk_below (g := gb285) (o := .cells #[.int .i64 a1_0, .int .i64 a1_1] 23 (0, 0)) (by (with_reducible repeat (first | refine blk_drewN ?_ _ | refine blk_drew ?_ | refine blk_alloc ?_ _)); refine blk_far ?_ NB285_293.out _; (with_reducible repeat (first | refine blk_drewN ?_ _ | refine blk_drew ?_ | refine blk_alloc ?_ _)); refine blk_far ?_ NB285_293.out _; (with_reducible repeat (first | refine blk_drewN ?_ _ | refine blk_drew ?_ | refine blk_alloc ?_ _)); exact BK285.out) hb); have n2_ := Aside0.mk (blk_below (g := gb289) (o := .cells #[.int .i64 t286, .int .i64 t287] 23 (0, 0)) (by (with_reducible repeat (first | refine blk_drewN ?_ _ | refine blk_drew ?_ | refine blk_alloc ?_ _)); refine blk_far ?_ NB289_293.out _; (with_reducible repeat (first | refine blk_drewN ?_ _ | refine blk_drew ?_ | refine blk_alloc ?_ _)); refine blk_far ?_ NB289_293.out _; (with_reducible repeat (first | refine blk_drewN ?_ _ | refine blk_drew ?_ | refine blk_alloc ?_ _)); exact BK289.out) hb); have n3_ := Aside0.mk (blk_below (g := gb293) (o := .cells #[.int .i64 t290, .int .i64 t291] 23 (0, 0)) (by (with_reducible repeat (first | refine blk_drewN ?_ _ | refine blk_drew ?_ | refine blk_alloc ?_ _)); refine blk_put (cs := #[.int .i64 t290, .int .i64 0]) ?_ 1 _ rfl; (with_reducible repeat (first | refine blk_drewN ?_ _ | refine blk_drew ?_ | refine blk_alloc ?_ _)); refine blk_put (cs := #[.int .i64 0, .int .i64 0]) ?_ 0 _ rfl; (with_reducible repeat (first | refine blk_drewN ?_ _ | refine blk_drew ?_ | refine blk_alloc ?_ _)); exact BK293.out) hb); have n4_ := Aside0.mk (below_step (by repeat (first | (with_reducible first | exact HB.out | apply below_alloc | apply pw_below_drewN | apply below_drew1 | refine below_set ?_ GE284.out | refine below_set ?_ GE285.out | refine below_set ?_ GE289.out | refine below_set ?_ GE293.out) | exact HB.out)) hb); clear BK284; clear BK285; clear BK289; clear BK293; clear HB; have BK284 := n0_; have BK285 := n1_; have BK289 := n2_; have BK293 := n3_; have HB := n4_; clear n0_ n1_ n2_ n3_ n4_; (try clear hb); (try clear hb2); (try clear hk); (try clear hi); have hcz27_0 : w26.cell? ⟨gb289, 0, none⟩ = some (.int .i64 t286) := (blk_cell BK289.out 0).trans rfl; have hcz27_1 : w26.cell? ⟨gb289, 1, none⟩ = some (.int .i64 t287) := (blk_cell BK289.out 1).trans rfl; have hfz27_0 := blk_frozen BK289.out 0; have hfz27_1 := blk_frozen BK289.out 1; have hcz28_0 : w26.cell? ⟨gb293, 0, none⟩ = some (.int .i64 t290) := (blk_cell BK293.out 0).trans rfl; have hcz28_1 : w26.cell? ⟨gb293, 1, none⟩ = some (.int .i64 t291) := (blk_cell BK293.out 1).trans rfl; have hfz28_0 := blk_frozen BK293.out 0; have hfz28_1 := blk_frozen BK293.out 1))
      go_ret
      exact ⟨by first | rfl | (simp [errW_none, errW_some] <;> rfl) | (simp [*, errW_none, errW_some] <;> rfl), by repeat (first | (with_reducible first | exact HB.out | apply below_alloc | apply pw_below_drewN | apply below_drew1 | refine below_set ?_ GE284.out | refine below_set ?_ GE285.out | refine below_set ?_ GE289.out | refine below_set ?_ GE293.out) | exact HB.out)⟩
    · rw [if_neg c7] at H
      have c7b0 : (t286 == t290 && (t287 == t291)) = false := by simpa using c7
      (try (have c7b1 : decide (t286 = t290 && (t287 == t291)) = false := by simpa using c7))
      (try (have c7b2 : (t286 == t290 && (t287 == t291)) = false := by simpa using c7))
      (try (have c7b3 : ¬ (t286 = t290 && (t287 == t291)) := by simpa using c7))
      clear c7
      exact absurd HR.out (by rw [← Option.some.inj H]; simp)
  · replace c6 := Bool.eq_false_iff.mpr c6
    subst c6
    have H1 : (some false) = some r := by rw [if_neg (show ¬ (false = true) by decide)] at H; exact H
    clear H
    have H := H1
    clear H1
    exact absurd HR.out (by rw [← Option.some.inj H]; simp)
end Go.Proofs.YtgkemhgihbfmmaaGreatDoor.PA
end
section
namespace Go.Proofs.YtgkemhgihbfmmaaGreatDoor.PA
open Go.RowKit Go.Proofs.YtgkemhgihbfmmaaGreatDoorW.PrintWords Go.Proofs.YtgkemhgihbfmmaaGreatDoorW.PrintLast Go.Proofs.YtgkemhgihbfmmaaGreatDoorW.PrintMore
attribute [local go_sem] max2_int min2_int max_two min_two max_three min_three max_four min_four
set_option linter.unusedVariables false
set_option linter.unusedSimpArgs false
end Go.Proofs.YtgkemhgihbfmmaaGreatDoor.PA
end
section
namespace Go.Proofs.YtgkemhgihbfmmaaGreatDoor.M
def sh : Nat → Int → Int × Int
  | 0, n => (n, 0)
  | s + 1, n => if n % 10 = 0 then sh s (n / 10) else (n, (s : Int) + 1)
theorem sh_id (s : Nat) (n : Int) (h : s = 0 ∨ n % 10 ≠ 0) : sh s n = (n, (s : Int)) := by
  cases s with
  | zero => rfl
  | succ s =>
    have h' : ¬ n % 10 = 0 := by omega
    simp [sh, h']
theorem sh_neg (s : Nat) : ∀ n : Int, sh s (-n) = (-(sh s n).1, (sh s n).2) := by
  induction s with
  | zero => intro n; rfl
  | succ s ih =>
    intro n
    by_cases h : n % 10 = 0
    · have h2 : (-n) % 10 = 0 := by omega
      have h3 : (-n) / 10 = -(n / 10) := by omega
      simp only [sh, h, h2, if_true, h3, ih]
    · have h2 : ¬ (-n) % 10 = 0 := by omega
      simp only [sh, h, h2, if_false]
theorem sh_spec (s : Nat) : ∀ n : Int, ∃ t : Nat, t ≤ s ∧ (sh s n).2 = ((s - t : Nat) : Int) ∧ n = (sh s n).1 * 10 ^ t ∧ ((sh s n).2 = 0 ∨ (sh s n).1 % 10 ≠ 0) := by
  induction s with
  | zero => intro n; exact ⟨0, Nat.le_refl _, rfl, by simp [sh], .inl rfl⟩
  | succ s ih =>
    intro n
    by_cases h : n % 10 = 0
    · obtain ⟨t, h1, h2, h3, h4⟩ := ih (n / 10)
      refine ⟨t + 1, by omega, ?_, ?_, ?_⟩
      · simp only [sh, h, if_true]; rw [h2]; congr 1; omega
      · simp only [sh, h, if_true]
        have e : n = (n / 10) * 10 := by omega
        rw [Int.pow_succ, ← Int.mul_assoc, ← h3]; exact e
      · simp only [sh, h, if_true]; exact h4
    · refine ⟨0, Nat.zero_le _, ?_, ?_, ?_⟩
      · simp [sh, h]
      · simp [sh, h]
      · simp only [sh, h, if_false]; exact .inr h
theorem sh_nonneg (s : Nat) : ∀ n : Int, 0 ≤ n → 0 ≤ (sh s n).1 ∧ (sh s n).1 ≤ n := by
  induction s with
  | zero => intro n h; simp only [sh]; omega
  | succ s ih =>
    intro n h
    by_cases h1 : n % 10 = 0
    · have := ih (n / 10) (by omega)
      simp only [sh, h1, if_true]; omega
    · simp only [sh, h1, if_false]; omega
def decS (n : Int) (s : Nat) (m : Bool) : Int × Int × Int :=
  if 999999999999 < (sh s n).1 then (0, 0, 3) else (if m = true then -(sh s n).1 else (sh s n).1, (sh s n).2, 0)
def Snd (n s : Int) : Prop := 0 ≤ s ∧ s ≤ 6 ∧ -999999999999 ≤ n ∧ n ≤ 999999999999 ∧ (s = 0 ∨ n % 10 ≠ 0)
instance (n s : Int) : Decidable (Snd n s) := by unfold Snd; infer_instance
def mk (n s : Int) : Int × Int × Int :=
  if s < 0 ∨ 6 < s ∨ 999999999999 < n ∨ n < -999999999999 then (0, 0, 3) else ((sh s.toNat n).1, (sh s.toNat n).2, 0)
theorem mk_sound (n s : Int) (h : Snd n s) : mk n s = (n, s, 0) := by
  obtain ⟨h0, h1, h2, h3, h4⟩ := h
  unfold mk; rw [if_neg (by omega)]
  rw [sh_id s.toNat n (by omega)]; simp only [Prod.mk.injEq, and_true, true_and]; omega
theorem mk_unsound (n s : Int) (h : ¬ Snd n s) : ¬ ((mk n s).2.2 = 0 ∧ (mk n s).1 = n ∧ (mk n s).2.1 = s) := by
  unfold mk
  by_cases h1 : s < 0 ∨ 6 < s ∨ 999999999999 < n ∨ n < -999999999999
  · rw [if_pos h1]; simp
  · rw [if_neg h1]
    rintro ⟨_, h2, h3⟩
    apply h
    refine ⟨by omega, by omega, by omega, by omega, ?_⟩
    obtain ⟨t, _, _, _, h4⟩ := sh_spec s.toNat n
    simp only at h2 h3
    rw [h2, h3] at h4; exact h4
def rhe (v b : Int) : Int := if b < 2 * (v % b) ∨ (2 * (v % b) = b ∧ (v / b) % 2 = 1) then v / b + 1 else v / b
theorem rhe_exact (q b : Int) (hb : 0 < b) : rhe (q * b) b = q := by
  unfold rhe; rw [Int.mul_emod_left, Int.mul_ediv_cancel _ (by omega), if_neg (by omega)]
def val : List Int → Int
  | [] => 0
  | d :: l => d + 10 * val l
def Dig (l : List Int) : Prop := ∀ d, d ∈ l → 0 ≤ d ∧ d ≤ 9
theorem Dig.cons {d : Int} {l : List Int} : Dig (d :: l) ↔ (0 ≤ d ∧ d ≤ 9) ∧ Dig l :=
  ⟨fun h => ⟨h d (List.mem_cons_self), fun x hx => h x (List.mem_cons_of_mem _ hx)⟩, fun h x hx => by
    rcases List.mem_cons.1 hx with rfl | hx
    · exact h.1
    · exact h.2 x hx⟩
theorem Dig.nil : Dig [] := fun _ h => by cases h
theorem Dig.drop {l : List Int} (h : Dig l) (k : Nat) : Dig (l.drop k) := fun d hd => h d (List.mem_of_mem_drop hd)
theorem Dig.take {l : List Int} (h : Dig l) (k : Nat) : Dig (l.take k) := fun d hd => h d (List.mem_of_mem_take hd)
theorem Dig.append {l m : List Int} (h : Dig l) (h' : Dig m) : Dig (l ++ m) := fun d hd => (List.mem_append.1 hd).elim (h d) (h' d)
theorem Dig.replicate (n : Nat) : Dig (List.replicate n 0) := fun d hd => by
  have := (List.mem_replicate.1 hd).2; omega
theorem val_nonneg {l : List Int} (h : Dig l) : 0 ≤ val l := by
  induction l with
  | nil => exact Int.le_refl _
  | cons d l ih => have := ih (Dig.cons.1 h).2; have := (Dig.cons.1 h).1; simp only [val]; omega
theorem val_lt {l : List Int} (h : Dig l) : val l < 10 ^ l.length := by
  induction l with
  | nil => decide
  | cons d l ih =>
    have h1 := ih (Dig.cons.1 h).2; have h2 := (Dig.cons.1 h).1
    simp only [val, List.length_cons, Int.pow_succ]; omega
theorem val_append (l m : List Int) : val (l ++ m) = val l + 10 ^ l.length * val m := by
  induction l with
  | nil => simp [val]
  | cons d l ih =>
    simp only [List.cons_append, val, ih, List.length_cons, Int.pow_succ, Int.mul_add]
    rw [Int.mul_comm (10 ^ l.length) 10, Int.mul_assoc]; omega
theorem val_replicate (n : Nat) : val (List.replicate n 0) = 0 := by
  induction n with
  | zero => rfl
  | succ n ih => simp [List.replicate_succ, val, ih]
theorem pow_pos (k : Nat) : (0 : Int) < 10 ^ k := Int.pow_pos (by decide)
theorem val_drop {l : List Int} (h : Dig l) (k : Nat) (hk : k ≤ l.length) : val (l.drop k) = val l / 10 ^ k ∧ val (l.take k) = val l % 10 ^ k := by
  have e := val_append (l.take k) (l.drop k)
  rw [List.take_append_drop] at e
  have hl : (l.take k).length = k := by rw [List.length_take]; omega
  rw [hl] at e
  have h1 := val_nonneg (h.take k); have h2 := val_lt (h.take k); rw [hl] at h2
  have hp := pow_pos k
  rw [e]
  constructor
  · rw [Int.add_mul_ediv_left _ _ (by omega), Int.ediv_eq_zero_of_lt h1 h2]; omega
  · rw [Int.add_mul_emod_self_left]; exact (Int.emod_eq_of_lt h1 h2).symm
def digs : Nat → Int → List Int
  | 0, _ => []
  | c + 1, n => n % 10 :: digs c (n / 10)
theorem digs_length (c : Nat) : ∀ n, (digs c n).length = c := by
  induction c with
  | zero => intro n; rfl
  | succ c ih => intro n; simp [digs, ih]
theorem digs_dig (c : Nat) : ∀ n, Dig (digs c n) := by
  induction c with
  | zero => intro n; exact Dig.nil
  | succ c ih => intro n; exact Dig.cons.2 ⟨by omega, ih _⟩
theorem digs_val (c : Nat) : ∀ n : Int, 0 ≤ n → n < 10 ^ c → val (digs c n) = n := by
  induction c with
  | zero => intro n h0 h1; simp at h1; simp [digs, val]; omega
  | succ c ih =>
    intro n h0 h1
    rw [Int.pow_succ] at h1
    have := ih (n / 10) (by omega) (by omega)
    simp only [digs, val, this]; omega
def addc : Int → List Int → List Int → List Int
  | c, x :: xs, y :: ys => (x + y + c) % 10 :: addc ((x + y + c) / 10) xs ys
  | _, _, _ => []
theorem addc_length : ∀ (a b : List Int) (c : Int), a.length = b.length → (addc c a b).length = a.length
  | [], [], _, _ => rfl
  | x :: xs, y :: ys, c, h => by simp [addc, addc_length xs ys _ (by simpa using h)]
  | [], _ :: _, _, h => by simp at h
  | _ :: _, [], _, h => by simp at h
theorem addc_dig : ∀ (a b : List Int) (c : Int), Dig (addc c a b)
  | [], [], _ => Dig.nil
  | [], _ :: _, _ => Dig.nil
  | _ :: _, [], _ => Dig.nil
  | x :: xs, y :: ys, c => Dig.cons.2 ⟨by omega, addc_dig xs ys _⟩
theorem addc_val : ∀ (a b : List Int) (c : Int), a.length = b.length → val (addc c a b) = (val a + val b + c) % 10 ^ a.length
  | [], [], c, _ => by simp [addc, val]
  | [], _ :: _, _, h => by simp at h
  | _ :: _, [], _, h => by simp at h
  | x :: xs, y :: ys, c, h => by
    have ih := addc_val xs ys ((x + y + c) / 10) (by simpa using h)
    simp only [addc, val, ih, List.length_cons, Int.pow_succ]
    have hp := pow_pos xs.length
    generalize (10 : Int) ^ xs.length = P at hp ih ⊢
    have e : x + 10 * val xs + (y + 10 * val ys) + c = 10 * (val xs + val ys + (x + y + c) / 10) + (x + y + c) % 10 := by omega
    rw [e]
    generalize val xs + val ys + (x + y + c) / 10 = T
    have hr : 0 ≤ (x + y + c) % 10 ∧ (x + y + c) % 10 < 10 := by omega
    generalize (x + y + c) % 10 = r at hr ⊢
    have e2 : 10 * T + r = 10 * (T % P) + r + (P * 10) * (T / P) := by
      have := Int.emod_add_mul_ediv T P
      have e3 : P * 10 * (T / P) = 10 * (P * (T / P)) := by rw [Int.mul_comm P 10, Int.mul_assoc]
      rw [e3]; omega
    have h1 := Int.emod_nonneg T (Int.ne_of_gt hp); have h2 := Int.emod_lt_of_pos T hp
    rw [e2, Int.add_mul_emod_self_left]
    generalize T % P = m at h1 h2 ⊢
    rw [Int.emod_eq_of_lt (by omega) (by omega)]; omega
theorem rhe_digits (v : Int) (c : Nat) (hv : 0 ≤ v) :
    rhe v (10 ^ (c + 1)) = v / 10 ^ (c + 1) + (if 5 < v / 10 ^ c % 10 ∨ (v / 10 ^ c % 10 = 5 ∧ (0 < v % 10 ^ c ∨ v / 10 ^ (c + 1) % 10 % 2 = 1)) then 1 else 0) := by
  have hp := pow_pos c
  unfold rhe
  rw [Int.pow_succ]
  generalize (10 : Int) ^ c = P at hp ⊢
  have e1 : v % (P * 10) = v % P + P * (v / P % 10) := by
    have h1 := Int.emod_add_mul_ediv v P
    have h2 := Int.emod_add_mul_ediv (v / P) 10
    have h3 : v = (v % P + P * (v / P % 10)) + (P * 10) * (v / P / 10) := by
      have e : P * (v / P) = P * (v / P % 10) + P * 10 * (v / P / 10) := by
        rw [Int.mul_assoc, ← Int.mul_add, h2]
      omega
    have h4 := Int.emod_nonneg v (Int.ne_of_gt hp); have h5 := Int.emod_lt_of_pos v hp
    have h6 : 0 ≤ v / P % 10 ∧ v / P % 10 ≤ 9 := by omega
    have h7 : 0 ≤ P * (v / P % 10) := Int.mul_nonneg (by omega) h6.1
    have h8 : P * (v / P % 10) ≤ P * 9 := Int.mul_le_mul_of_nonneg_left h6.2 (by omega)
    have h9 : v % (P * 10) = ((v % P + P * (v / P % 10)) + (P * 10) * (v / P / 10)) % (P * 10) := by rw [← h3]
    rw [h9, Int.add_mul_emod_self_left, Int.emod_eq_of_lt (by omega) (by omega)]
  rw [e1]
  have h4 := Int.emod_nonneg v (Int.ne_of_gt hp); have h5 := Int.emod_lt_of_pos v hp
  have h6 : 0 ≤ v / P % 10 ∧ v / P % 10 ≤ 9 := by omega
  generalize v % P = L at h4 h5 ⊢
  generalize v / P % 10 = h at h6 ⊢
  have ee : v / (P * 10) % 10 % 2 = v / (P * 10) % 2 := by omega
  rw [ee]
  generalize v / (P * 10) = q
  have hh : P * h < P * 5 ∧ P * h ≤ P * 4 ∨ P * h = P * 5 ∧ h = 5 ∨ P * 6 ≤ P * h ∧ 5 < h := by
    rcases Int.lt_trichotomy h 5 with g | g | g
    · exact .inl ⟨Int.mul_lt_mul_of_pos_left g hp, Int.mul_le_mul_of_nonneg_left (by omega) (by omega)⟩
    · exact .inr (.inl ⟨by rw [g], g⟩)
    · exact .inr (.inr ⟨Int.mul_le_mul_of_nonneg_left (by omega) (by omega), g⟩)
  have hlt : P * h ≤ P * 4 → h < 5 := fun g => by
    false_or_by_contra
    have : P * 5 ≤ P * h := Int.mul_le_mul_of_nonneg_left (by omega) (by omega)
    omega
  generalize P * h = Ph at hh hlt ⊢
  rcases hh with ⟨g1, g2⟩ | ⟨g1, g2⟩ | ⟨g1, g2⟩
  · have := hlt g2; rw [if_neg (by omega), if_neg (by omega)]; omega
  · subst g1; subst g2
    by_cases g3 : 0 < L ∨ q % 2 = 1
    · rw [if_pos (by omega), if_pos (by omega)]
    · rw [if_neg (by omega), if_neg (by omega)]; omega
  · rw [if_pos (by omega), if_pos (by omega)]
end Go.Proofs.YtgkemhgihbfmmaaGreatDoor.M
end
section
namespace Go.Proofs.YtgkemhgihbfmmaaGreatDoor.PA
open Go.RowKit Go.Proofs.YtgkemhgihbfmmaaGreatDoorW.PrintWords Go.Proofs.YtgkemhgihbfmmaaGreatDoorW.PrintLast Go.Proofs.YtgkemhgihbfmmaaGreatDoorW.PrintMore
open Go.Proofs.YtgkemhgihbfmmaaGreatDoor.M
theorem w64 {x : Int} (h1 : -9223372036854775808 ≤ x) (h2 : x < 9223372036854775808) : wrap64 x = x := by unfold wrap64; omega
theorem wu64 {x : Int} (h1 : 0 ≤ x) (h2 : x < 18446744073709551616) : IntKind.u64.wrap x = x := by rw [IntKind.wrap_u64]; omega
theorem obs {α β : Type} (a : α) (f : α → Option β) : (some a).bind f = f a := by simp
theorem succ_of {k : Nat} (h : 0 < k) : ∃ m, k = m + 1 := ⟨k - 1, by omega⟩
theorem short_l0 (s : Nat) : ∀ (k : Nat) (n : Int), s < k → s ≤ 1000 → 0 ≤ n → n < 18446744073709551616 → deci_form_short.l0 k n s = some (sh s n) := by
  induction s with
  | zero =>
    intro k n hk _ _ _
    obtain ⟨k, rfl⟩ := succ_of (show 0 < k by omega)
    simp only [deci_form_short.l0]; rw [if_neg (by omega)]; rfl
  | succ s ih =>
    intro k n hk hs h0 h1
    obtain ⟨k, rfl⟩ := succ_of (show 0 < k by omega)
    simp only [deci_form_short.l0]
    rw [if_pos (by omega), Int.tmod_eq_emod_of_nonneg h0, Int.tdiv_eq_ediv_of_nonneg h0]
    by_cases h : n % 10 = 0
    · rw [if_pos h, wu64 (by omega) (by omega), w64 (by omega) (by omega), show ((s + 1 : Nat) : Int) - 1 = (s : Int) by omega, ih k (n / 10) (by omega) (by omega) (by omega) (by omega)]
      simp only [sh, h, if_true]
    · rw [if_neg h]; simp only [sh, h, if_false]; rfl
theorem dec_f {k : Nat} {n s : Int} {m : Bool} (hk : 8 ≤ k) (h0 : 0 ≤ n) (h1 : n < 18446744073709551616) (hs0 : 0 ≤ s) (hs : s ≤ 6) :
    deci_form_dec.f k n s m = some (decS n s.toNat m) := by
  obtain ⟨t, rfl⟩ := Int.eq_ofNat_of_zero_le hs0
  unfold deci_form_dec.f deci_form_short.f
  rw [short_l0 t k n (by omega) (by omega) h0 h1]
  simp only [Option.bind_some, Int.toNat_natCast]
  have hb := sh_nonneg t n h0
  unfold decS
  by_cases h : 999999999999 < (sh t n).1
  · rw [if_pos h, if_pos h]
  · rw [if_neg h, if_neg h, w64 (x := (sh t n).1) (by omega) (by omega), w64 (by omega) (by omega)]
    cases m <;> rfl
theorem mx_abs {n : Int} (h1 : -9223372036854775807 ≤ n) (h2 : n < 9223372036854775808) : IntKind.u64.wrap (mx n (wrap64 (-n))) = n.natAbs := by
  rw [w64 (by omega) (by omega)]; unfold mx
  split <;> (rw [wu64 (by omega) (by omega)]; omega)
theorem decS_mk (n s : Int) (h : ¬ (s < 0 ∨ 6 < s ∨ 999999999999 < n ∨ n < -999999999999)) : decS (n.natAbs : Int) s.toNat (decide (n < 0)) = mk n s := by
  unfold decS mk
  rw [if_neg h]
  have hb := sh_nonneg s.toNat (n.natAbs : Int) (by omega)
  rw [if_neg (by omega)]
  by_cases g : n < 0
  · have e : n = -((n.natAbs : Nat) : Int) := by omega
    simp only [g, decide_true, if_true]
    rw [e, sh_neg]; simp
  · have e : ((n.natAbs : Nat) : Int) = n := by omega
    simp only [g, decide_false, Bool.false_eq_true, if_false]
    rw [e]
theorem make_f {k : Nat} (hk : 10 ≤ k) (n s : Int) : deci_Make.f k n s = some (mk n s) := by
  have hj : ∀ b : Bool, b = decide (s < 0 ∨ 6 < s ∨ 999999999999 < n ∨ n < -999999999999) → deci_Make.j0 k n s b = some (mk n s) := by
    intro b hb
    obtain ⟨k, rfl⟩ := succ_of (show 0 < k by omega)
    simp only [deci_Make.j0]
    by_cases h : s < 0 ∨ 6 < s ∨ 999999999999 < n ∨ n < -999999999999
    · rw [if_pos (by rw [hb]; exact decide_eq_true h)]; unfold mk; rw [if_pos h]
    · rw [if_neg (by rw [hb, decide_eq_false h]; simp), mx_abs (by omega) (by omega), dec_f (by omega) (by omega) (by omega) (by omega) (by omega)]
      simp only [Option.bind_some]
      rw [decS_mk n s h]
  unfold deci_Make.f
  by_cases h1 : s < 0
  · rw [if_pos h1]; exact hj _ (decide_eq_true (by omega)).symm
  rw [if_neg h1]
  by_cases h2 : s > 6
  · rw [if_pos h2]; exact hj _ (decide_eq_true (by omega)).symm
  rw [if_neg h2]
  by_cases h3 : n > 999999999999
  · rw [if_pos h3]; exact hj _ (decide_eq_true (by omega)).symm
  rw [if_neg h3]
  exact hj _ (by rw [decide_eq_decide]; omega)
theorem refmake_l0 (s : Nat) : ∀ (k : Nat) (n : Int), s < k → s ≤ 1000 → -9223372036854775808 ≤ n → n < 9223372036854775808 → soffitref01_Make.l0 k n s = some ((sh s n).1, (sh s n).2, 0) := by
  induction s with
  | zero =>
    intro k n hk _ _ _
    obtain ⟨k, rfl⟩ := succ_of (show 0 < k by omega)
    simp only [soffitref01_Make.l0]; rw [if_neg (by omega)]; rfl
  | succ s ih =>
    intro k n hk hs h0 h1
    obtain ⟨k, rfl⟩ := succ_of (show 0 < k by omega)
    simp only [soffitref01_Make.l0]
    rw [if_pos (by omega)]
    have e : Int.tmod n 10 = 0 ↔ n % 10 = 0 := by
      constructor
      · intro h; have := Int.dvd_of_tmod_eq_zero h; omega
      · intro h; exact Int.tmod_eq_zero_of_dvd (by omega)
    by_cases h : n % 10 = 0
    · have hd : Int.tdiv n 10 = n / 10 := Int.tdiv_eq_ediv_of_dvd (by omega)
      rw [if_pos (e.2 h), hd, w64 (by omega) (by omega), w64 (by omega) (by omega), show ((s + 1 : Nat) : Int) - 1 = (s : Int) by omega, ih k (n / 10) (by omega) (by omega) (by omega) (by omega)]
      simp only [sh, h, if_true]
    · rw [if_neg (fun g => h (e.1 g))]; simp only [sh, h, if_false]; rfl
theorem refmake_f {k : Nat} (hk : 10 ≤ k) (n s : Int) : soffitref01_Make.f k n s = some (mk n s) := by
  have hj : ∀ b : Bool, b = decide (s < 0 ∨ 6 < s ∨ 999999999999 < n ∨ n < -999999999999) → soffitref01_Make.j0 k n s b = some (mk n s) := by
    intro b hb
    obtain ⟨k, rfl⟩ := succ_of (show 0 < k by omega)
    simp only [soffitref01_Make.j0]
    by_cases h : s < 0 ∨ 6 < s ∨ 999999999999 < n ∨ n < -999999999999
    · rw [if_pos (by rw [hb]; exact decide_eq_true h)]; unfold mk; rw [if_pos h]
    · rw [if_neg (by rw [hb, decide_eq_false h]; simp)]
      obtain ⟨t, rfl⟩ := Int.eq_ofNat_of_zero_le (show 0 ≤ s by omega)
      rw [refmake_l0 t k n (by omega) (by omega) (by omega) (by omega)]
      unfold mk; rw [if_neg h, Int.toNat_natCast]
  unfold soffitref01_Make.f
  by_cases h1 : s < 0
  · rw [if_pos h1]; exact hj _ (decide_eq_true (by omega)).symm
  rw [if_neg h1]
  by_cases h2 : s > 6
  · rw [if_pos h2]; exact hj _ (decide_eq_true (by omega)).symm
  rw [if_neg h2]
  by_cases h3 : n > 999999999999
  · rw [if_pos h3]; exact hj _ (decide_eq_true (by omega)).symm
  rw [if_neg h3]
  exact hj _ (by rw [decide_eq_decide]; omega)
theorem sound_f {k : Nat} (hk : 10 ≤ k) (n s : Int) : deci_Sound.f k n s = some (decide (Snd n s)) := by
  unfold deci_Sound.f
  rw [make_f hk]; simp only [Option.bind_some]
  by_cases h : Snd n s
  · rw [mk_sound n s h]; simp [h]
  · have hu := mk_unsound n s h
    by_cases e : (mk n s).2.2 = 0
    · rw [if_pos e]; simp only [h, decide_false, Option.some.injEq, Bool.and_eq_false_iff, beq_eq_false_iff_ne]
      by_cases e1 : (mk n s).1 = n
      · right; intro e2; exact hu ⟨e, e1, e2⟩
      · left; exact e1
    · rw [if_neg e]; simp [h]
theorem refsound_f {k : Nat} (hk : 10 ≤ k) (n s : Int) : soffitref01_Sound.f k n s = some (decide (Snd n s)) := by
  unfold soffitref01_Sound.f
  rw [refmake_f hk]; simp only [Option.bind_some]
  by_cases h : Snd n s
  · rw [mk_sound n s h]; simp [h]
  · have hu := mk_unsound n s h
    by_cases e : (mk n s).2.2 = 0
    · rw [if_pos e]
      by_cases e1 : (mk n s).1 = n
      · rw [if_pos e1]; simp only [h, decide_false, Option.some.injEq, beq_eq_false_iff_ne]
        intro e2; exact hu ⟨e, e1, e2⟩
      · rw [if_neg e1]; simp [h]
    · rw [if_neg e]; simp [h]
theorem all_two {k : Nat} (hk : 15 ≤ k) (n s n' s' : Int) : deci_all.f k [⟨n, s⟩, ⟨n', s'⟩] = some (if Snd n s ∧ Snd n' s' then 0 else 2) := by
  obtain ⟨k, rfl⟩ : ∃ m, k = m + 3 := ⟨k - 3, by omega⟩
  have w1 : wrap64 (0 + 1) = 1 := w64 (by decide) (by decide)
  have w2 : wrap64 (1 + 1) = 2 := w64 (by decide) (by decide)
  unfold deci_all.f
  simp only [deci_all.l0, List.length_cons, List.length_nil, w1, w2]
  have e0 : rd_T23 [(⟨n, s⟩ : S23), ⟨n', s'⟩] 0 = ⟨n, s⟩ := rfl
  have e1 : rd_T23 [(⟨n, s⟩ : S23), ⟨n', s'⟩] 1 = ⟨n', s'⟩ := rfl
  rw [if_pos (by decide), if_pos (by decide), if_pos (by decide), e0, sound_f (by omega)]
  simp only [Option.bind_some, decide_eq_true_eq]
  by_cases h : Snd n s
  · rw [if_pos h, if_pos (by decide), if_pos (by decide), if_pos (by decide), e1, sound_f (by omega)]
    simp only [Option.bind_some, decide_eq_true_eq]
    by_cases h' : Snd n' s'
    · rw [if_pos h', if_neg (by decide)]; simp only [h, h', and_self, if_true]
    · rw [if_neg h']; simp only [h, h', and_false, if_false]
  · rw [if_neg h]; simp only [h, false_and, if_false]
theorem power_l0 (d : Nat) : ∀ (k i : Nat), d < k → i + d ≤ 18 → deci_power.l0 k (10 ^ i) ((i + d : Nat) : Int) (i : Int) = some (10 ^ (i + d)) := by
  have hp : ∀ j : Nat, j ≤ 18 → (10 : Int) ^ j ≤ 1000000000000000000 := fun j h => by
    have h1 : (10 : Int) ^ 18 = 10 ^ j * 10 ^ (18 - j) := by rw [← Int.pow_add]; congr 1; omega
    have h2 := pow_pos j; have h3 := pow_pos (18 - j)
    have h4 : 10 ^ j * 1 ≤ (10 : Int) ^ j * 10 ^ (18 - j) := Int.mul_le_mul_of_nonneg_left (by omega) (by omega)
    have h5 : (10 : Int) ^ 18 = 1000000000000000000 := by decide
    omega
  induction d with
  | zero =>
    intro k i hk hi
    obtain ⟨k, rfl⟩ := succ_of (show 0 < k by omega)
    simp only [deci_power.l0]; rw [if_neg (by omega)]; simp
  | succ d ih =>
    intro k i hk hi
    obtain ⟨k, rfl⟩ := succ_of (show 0 < k by omega)
    simp only [deci_power.l0]
    have h1 := hp (i + 1) (by omega); have h2 := pow_pos (i + 1)
    rw [if_pos (by omega), ← Int.pow_succ, wu64 (by omega) (by omega), w64 (by omega) (by omega)]
    have := ih k (i + 1) (by omega) (by omega)
    rw [show ((i + 1 : Nat) : Int) = (i : Int) + 1 by omega, show i + 1 + d = i + (d + 1) by omega] at this
    exact this
theorem power_f {k : Nat} (hk : 20 ≤ k) {n : Int} (h0 : 0 ≤ n) (h1 : n ≤ 18) : deci_power.f k n = some (10 ^ n.toNat) := by
  obtain ⟨t, rfl⟩ := Int.eq_ofNat_of_zero_le h0
  have := power_l0 t k 0 (by omega) (by omega)
  simp only [Nat.zero_add, Int.pow_zero] at this
  unfold deci_power.f; rw [Int.toNat_natCast]; exact this
end Go.Proofs.YtgkemhgihbfmmaaGreatDoor.PA
end
section
namespace Go.Proofs.YtgkemhgihbfmmaaGreatDoor.PA
open Go.RowKit Go.Proofs.YtgkemhgihbfmmaaGreatDoorW.PrintWords Go.Proofs.YtgkemhgihbfmmaaGreatDoorW.PrintLast Go.Proofs.YtgkemhgihbfmmaaGreatDoorW.PrintMore
open Go.Proofs.YtgkemhgihbfmmaaGreatDoor.M
theorem pow_le {a b : Nat} (h : a ≤ b) : (10 : Int) ^ a ≤ 10 ^ b := by
  obtain ⟨c, rfl⟩ := Nat.exists_eq_add_of_le h
  rw [Int.pow_add]
  have h1 := pow_pos a; have h2 := pow_pos c
  have h3 : (10 : Int) ^ a * 1 ≤ 10 ^ a * 10 ^ c := Int.mul_le_mul_of_nonneg_left (by omega) (by omega)
  omega
theorem pow_6 {a : Nat} (h : a ≤ 6) : 1 ≤ (10 : Int) ^ a ∧ (10 : Int) ^ a ≤ 1000000 := by
  have h1 := pow_pos a; have h2 := pow_le h
  have e : (10 : Int) ^ 6 = 1000000 := by decide
  omega
def un (n s : Int) : Int := n * 10 ^ (6 - s).toNat
theorem mul_bound {n p N P : Int} (h1 : -N ≤ n) (h2 : n ≤ N) (h3 : 0 ≤ p) (h4 : p ≤ P) (hN : 0 ≤ N) : -(N * P) ≤ n * p ∧ n * p ≤ N * P := by
  have a1 : n * p ≤ N * p := Int.mul_le_mul_of_nonneg_right h2 h3
  have a2 : N * p ≤ N * P := Int.mul_le_mul_of_nonneg_left h4 hN
  have a3 : -N * p ≤ n * p := Int.mul_le_mul_of_nonneg_right h1 h3
  rw [Int.neg_mul] at a3; omega
theorem un_bound {n s : Int} (h : Snd n s) : -999999999999000000 ≤ un n s ∧ un n s ≤ 999999999999000000 := by
  obtain ⟨h0, h1, h2, h3, _⟩ := h
  have hp := pow_6 (a := (6 - s).toNat) (by omega)
  have := mul_bound (N := 999999999999) (P := 1000000) h2 h3 (by omega) hp.2 (by decide)
  unfold un; omega
theorem units_f {k : Nat} (hk : 40 ≤ k) {n s : Int} (h : Snd n s) : deci_units.f k n s = some (un n s) := by
  have hb := un_bound h
  obtain ⟨h0, h1, h2, h3, _⟩ := h
  have hp := pow_6 (a := (6 - s).toNat) (by omega)
  unfold deci_units.f
  rw [w64 (by omega) (by omega), power_f (by omega) (by omega) (by omega)]
  simp only [obs]
  rw [w64 (x := (10 : Int) ^ (6 - s).toNat) (by omega) (by omega)]
  rw [show n * 10 ^ (6 - s).toNat = un n s from rfl, w64 (by omega) (by omega)]
def addS (n s n' s' : Int) : Int × Int × Int :=
  if Snd n s ∧ Snd n' s' then decS ((un n s + un n' s').natAbs : Int) 6 (decide (un n s + un n' s' < 0)) else (0, 0, 2)
theorem add_ff {k : Nat} (hk : 40 ≤ k) (n s n' s' : Int) : deci_Add.f k n s n' s' = some (addS n s n' s') := by
  unfold deci_Add.f addS
  rw [all_two (by omega)]
  simp only [obs]
  by_cases h : Snd n s ∧ Snd n' s'
  · rw [if_pos h, if_pos rfl, if_pos h, units_f hk h.1, units_f hk h.2]
    have h1 := un_bound h.1; have h2 := un_bound h.2
    simp only [obs]
    rw [w64 (x := un n s + un n' s') (by omega) (by omega), mx_abs (by omega) (by omega), dec_f (by omega) (by omega) (by omega) (by decide) (by decide), show (6 : Int).toNat = 6 from rfl]; simp only [obs, Prod.eta]
  · rw [if_neg h, if_neg (by decide), if_neg h]
end Go.Proofs.YtgkemhgihbfmmaaGreatDoor.PA
end
section
namespace Go.Proofs.YtgkemhgihbfmmaaGreatDoor.PA
open Go.RowKit Go.Proofs.YtgkemhgihbfmmaaGreatDoorW.PrintWords Go.Proofs.YtgkemhgihbfmmaaGreatDoorW.PrintLast Go.Proofs.YtgkemhgihbfmmaaGreatDoorW.PrintMore
open Go.Proofs.YtgkemhgihbfmmaaGreatDoor.M
theorem rd_app (p : List Int) (x : Int) (s : List Int) : rd (p ++ x :: s) (p.length : Int) = x := by
  unfold rd; rw [Int.toNat_natCast]; simp
theorem set_app (p : List Int) (x v : Int) (s : List Int) : (p ++ x :: s).set p.length v = p ++ v :: s := by simp
theorem rd_cons (x : Int) (s : List Int) : rd (x :: s) 0 = x := rfl
theorem rd_dig {l : List Int} (h : Dig l) (i : Nat) : 0 ≤ rd l i ∧ rd l i ≤ 9 := by
  unfold rd; rw [Int.toNat_natCast, List.getD_eq_getElem?_getD]
  by_cases hi : i < l.length
  · rw [List.getElem?_eq_getElem hi]; exact h _ (List.getElem_mem hi)
  · rw [List.getElem?_eq_none (by omega)]; exact ⟨by decide, by decide⟩
theorem digits_l0 (d : Nat) : ∀ (k : Nat) (n : Int) (p : List Int), d < k → p.length + d ≤ 1000 → 0 ≤ n → n < 9223372036854775808 →
    soffitref01_digits.l0 k n ((p.length + d : Nat) : Int) (p ++ List.replicate d 0) (p.length : Int) = some (p ++ digs d n) := by
  induction d with
  | zero =>
    intro k n p hk _ _ _
    obtain ⟨k, rfl⟩ := succ_of (show 0 < k by omega)
    simp only [soffitref01_digits.l0]; rw [if_neg (by omega)]; simp [digs]
  | succ d ih =>
    intro k n p hk hl h0 h1
    obtain ⟨k, rfl⟩ := succ_of (show 0 < k by omega)
    simp only [soffitref01_digits.l0]
    rw [if_pos (by omega), if_pos (by omega), if_pos (by simp; omega), Int.tdiv_eq_ediv_of_nonneg h0, Int.tmod_eq_emod_of_nonneg h0, w64 (x := n / 10) (by omega) (by omega), w64 (by omega) (by omega), Int.toNat_natCast, List.replicate_succ, set_app]
    have := ih k (n / 10) (p ++ [n % 10]) (by omega) (by simp; omega) (by omega) (by omega)
    simp only [List.length_append, List.length_singleton, List.append_assoc, List.singleton_append] at this
    rw [show p.length + 1 + d = p.length + (d + 1) by omega, show ((p.length + 1 : Nat) : Int) = (p.length : Int) + 1 by omega] at this
    rw [this]; rfl
theorem digits_f {k c : Nat} {n : Int} (hk : c < k) (hc : c ≤ 1000) (h0 : 0 ≤ n) (h1 : n < 9223372036854775808) : soffitref01_digits.f k n (c : Int) = some (digs c n) := by
  unfold soffitref01_digits.f
  rw [if_pos (by omega), if_pos (by omega), Int.toNat_natCast]
  have := digits_l0 c k n [] hk (by simp; omega) h0 h1
  simpa using this
theorem refsize_f {n : Int} (h1 : -9223372036854775807 ≤ n) (h2 : n < 9223372036854775808) : soffitref01_size.f n = some (n.natAbs : Int) := by
  unfold soffitref01_size.f
  by_cases h : n < 0
  · rw [if_pos h, w64 (by omega) (by omega)]; congr 1; omega
  · rw [if_neg h]; congr 1; omega
theorem plus_l0 : ∀ (la lb : List Int) (k : Nat) (pa pb p : List Int) (c : Int), la.length = lb.length → Dig la → Dig lb → 0 ≤ c → c ≤ 1 → pa.length = p.length → pb.length = p.length → la.length < k → p.length + la.length ≤ 1000 →
    soffitref01_plus.l0 k (pa ++ la) (pb ++ lb) (p ++ List.replicate la.length 0) c (p.length : Int) = some (p ++ addc c la lb)
  | [], [], k, pa, pb, p, c, _, _, _, _, _, hpa, _, hk, _ => by
    obtain ⟨k, rfl⟩ := succ_of (show 0 < k by omega)
    simp only [soffitref01_plus.l0]; rw [if_neg (by simp; omega)]; simp [addc]
  | [], _ :: _, _, _, _, _, _, h, _, _, _, _, _, _, _, _ => by simp at h
  | _ :: _, [], _, _, _, _, _, h, _, _, _, _, _, _, _, _ => by simp at h
  | x :: la, y :: lb, k, pa, pb, p, c, h, ha, hb, h0, h1, hpa, hpb, hk, hl => by
    obtain ⟨k, rfl⟩ := succ_of (show 0 < k by omega)
    have hx := (Dig.cons.1 ha).1; have hy := (Dig.cons.1 hb).1
    have hh : la.length = lb.length := by simpa using h
    simp only [List.length_cons] at hk hl
    simp only [soffitref01_plus.l0]
    have ra : rd (pa ++ x :: la) (p.length : Int) = x := by rw [← hpa]; exact rd_app pa x la
    have rb : rd (pb ++ y :: lb) (p.length : Int) = y := by rw [← hpb]; exact rd_app pb y lb
    rw [if_pos (by simp; omega), if_pos (by omega), if_pos (by simp; omega), if_pos (by simp; omega), ra, rb, w64 (x := x + y) (by omega) (by omega), w64 (x := x + y + c) (by omega) (by omega),
      Int.tdiv_eq_ediv_of_nonneg (show 0 ≤ x + y + c by omega), Int.tmod_eq_emod_of_nonneg (show 0 ≤ x + y + c by omega), w64 (x := (x + y + c) / 10) (by omega) (by omega), w64 (by omega) (by omega), Int.toNat_natCast,
      List.length_cons, List.replicate_succ, set_app]
    have := plus_l0 la lb k (pa ++ [x]) (pb ++ [y]) (p ++ [(x + y + c) % 10]) ((x + y + c) / 10) hh (Dig.cons.1 ha).2 (Dig.cons.1 hb).2 (by omega) (by omega) (by simp; omega) (by simp; omega) (by omega) (by simp; omega)
    simp only [List.length_append, List.length_singleton, List.append_assoc, List.singleton_append] at this
    rw [show ((p.length + 1 : Nat) : Int) = (p.length : Int) + 1 by omega] at this
    rw [this]; rfl
theorem plus_f {k : Nat} {a b : List Int} (h : a.length = b.length) (ha : Dig a) (hb : Dig b) (hk : a.length < k) (hl : a.length ≤ 1000) : soffitref01_plus.f k a b = some (addc 0 a b) := by
  unfold soffitref01_plus.f
  rw [if_pos (by omega), if_pos (by omega), Int.toNat_natCast]
  have := plus_l0 a b k [] [] [] 0 h ha hb (by decide) (by decide) rfl rfl hk (by simpa using hl)
  simpa using this
theorem decl2 (row : List Int) (b : Int) (m : Bool) (hd : Dig row) (i : Nat) : ∀ (k : Nat) (n : Int), i < k → i ≤ row.length → row.length ≤ 1000 → 0 ≤ n → n ≤ 100000000000000 →
    soffitref01_dec.l2 k row b m n ((i : Int) - 1) = some (if 999999999999 < n * 10 ^ i + val (row.take i) then (0, 0, 3) else (if m = true then -(n * 10 ^ i + val (row.take i)) else n * 10 ^ i + val (row.take i), b, 0)) := by
  induction i with
  | zero =>
    intro k n hk _ _ h0 h1
    obtain ⟨k, rfl⟩ := succ_of (show 0 < k by omega)
    simp only [soffitref01_dec.l2]; rw [if_neg (by omega)]
    simp only [List.take_zero, val, Int.pow_zero, Int.mul_one, Int.add_zero]
    by_cases h : n > 999999999999
    · rw [if_pos h, if_pos h]
    · rw [if_neg h, if_neg h, w64 (x := -n) (by omega) (by omega)]; cases m <;> rfl
  | succ i ih =>
    intro k n hk hi hl h0 h1
    obtain ⟨k, rfl⟩ := succ_of (show 0 < k by omega)
    have e1 : ((i + 1 : Nat) : Int) - 1 = (i : Int) := by omega
    have hdg := rd_dig hd i
    have hv : val (row.take (i + 1)) = val (row.take i) + 10 ^ i * rd row i := by
      have e : row.take (i + 1) = row.take i ++ [rd row i] := by
        rw [List.take_succ_eq_append_getElem (show i < row.length by omega)]
        unfold rd; rw [Int.toNat_natCast, List.getD_eq_getElem?_getD, List.getElem?_eq_getElem (by omega)]; rfl
      rw [e, val_append, List.length_take, Nat.min_eq_left (by omega)]; simp [val]
    have hp := pow_pos i
    have hvn := val_nonneg (hd.take i)
    have e2 : n * 10 ^ (i + 1) + val (row.take (i + 1)) = (n * 10 + rd row i) * 10 ^ i + val (row.take i) := by
      rw [hv, Int.pow_succ, Int.add_mul]
      have a1 : n * (10 ^ i * 10) = n * 10 * 10 ^ i := by ac_rfl
      have a2 : 10 ^ i * rd row i = rd row i * 10 ^ i := Int.mul_comm _ _
      rw [a1, a2]; omega
    rw [e1, e2]
    simp only [soffitref01_dec.l2]; rw [if_pos (by omega)]
    by_cases h : n > 999999999999
    · have h3 : (n * 10 + rd row i) * 1 ≤ (n * 10 + rd row i) * 10 ^ i := Int.mul_le_mul_of_nonneg_left (by omega) (by omega)
      rw [if_pos h, if_pos (by omega)]
    · rw [if_neg h, if_pos (by omega), if_pos (by omega), w64 (x := n * 10) (by omega) (by omega), w64 (x := n * 10 + rd row i) (by omega) (by omega), w64 (by omega) (by omega)]
      exact ih k (n * 10 + rd row i) (by omega) (by omega) hl (by omega) (by omega)
theorem decj4 {k : Nat} {row : List Int} {b : Int} {m : Bool} (hd : Dig row) (hk : row.length + 1 < k) (hl : row.length ≤ 1000) :
    soffitref01_dec.j4 k row b m = some (if 999999999999 < val row then (0, 0, 3) else (if m = true then -val row else val row, b, 0)) := by
  obtain ⟨k, rfl⟩ := succ_of (show 0 < k by omega)
  simp only [soffitref01_dec.j4]
  rw [w64 (by omega) (by omega), decl2 row b m hd row.length k 0 (by omega) (Nat.le_refl _) hl (by decide) (by decide)]
  simp only [Int.zero_mul, Int.zero_add, List.take_length]
theorem decl1 (b : Nat) : ∀ (k : Nat) (row : List Int) (m : Bool), Dig row → b + 1 ≤ row.length → row.length ≤ 1000 → row.length + b + 2 < k →
    soffitref01_dec.l1 k row (b : Int) m = some (decS (val row) b m) := by
  induction b with
  | zero =>
    intro k row m hd h1 h2 hk
    obtain ⟨k, rfl⟩ := succ_of (show 0 < k by omega)
    simp only [soffitref01_dec.l1]; rw [if_neg (by omega), decj4 hd (by omega) h2]; rfl
  | succ b ih =>
    intro k row m hd h1 h2 hk
    obtain ⟨k, rfl⟩ := succ_of (show 0 < k by omega)
    match row, h1, h2, hk, hd with
    | d :: l, h1, h2, hk, hd =>
      have hdd := (Dig.cons.1 hd).1
      simp only [List.length_cons] at h1 h2 hk
      simp only [soffitref01_dec.l1]; rw [if_pos (by omega), if_pos (by simp only [List.length_cons]; omega), rd_cons]
      by_cases h : d = 0
      · rw [if_pos h, if_pos (by simp only [List.length_cons]; omega), w64 (by omega) (by omega)]
        have e1 : ((b + 1 : Nat) : Int) - 1 = (b : Int) := by omega
        have e2 : List.drop (1 : Int).toNat (d :: l) = l := rfl
        rw [e1, e2, ih k l m (Dig.cons.1 hd).2 (by omega) (by omega) (by omega)]
        unfold decS
        have e3 : val (d :: l) % 10 = 0 := by simp only [val]; omega
        have e4 : val (d :: l) / 10 = val l := by simp only [val]; omega
        simp only [sh, e3, if_true, e4]
      · rw [if_neg h, decj4 hd (by simp only [List.length_cons]; omega) (by simp only [List.length_cons]; omega)]
        have e3 : ¬ val (d :: l) % 10 = 0 := by simp only [val]; omega
        unfold decS
        simp only [sh, e3, if_false]; rfl
theorem decj2 {k : Nat} {row : List Int} {b up : Int} {m : Bool} (hd : Dig row) (h0 : 0 ≤ b) (h1 : b ≤ 6) (h2 : b + 1 ≤ row.length) (h3 : row.length ≤ 60) (hu0 : 0 ≤ up) (hu : up ≤ 1) (hv : val row + up < 10 ^ row.length) (hk : 100 ≤ k) :
    soffitref01_dec.j2 k row b m up = some (decS (val row + up) b.toNat m) := by
  obtain ⟨t, rfl⟩ := Int.eq_ofNat_of_zero_le h0
  obtain ⟨k, rfl⟩ := succ_of (show 0 < k by omega)
  simp only [soffitref01_dec.j2]
  rw [if_pos (by omega), if_pos (by omega), Int.toNat_natCast]
  simp only [obs]
  obtain ⟨L, hL⟩ : ∃ L, row.length = L + 1 := ⟨row.length - 1, by omega⟩
  have e1 : (List.replicate row.length (0 : Int)).set (0 : Int).toNat up = up :: List.replicate L 0 := by rw [hL, List.replicate_succ]; rfl
  have d1 : Dig (up :: List.replicate L 0) := Dig.cons.2 ⟨by omega, Dig.replicate L⟩
  have v1 : val (up :: List.replicate L 0) = up := by simp only [val, val_replicate]; omega
  rw [if_pos (by rw [List.length_replicate]; omega), e1, plus_f (by simp [hL]) hd d1 (by omega) (by omega)]
  simp only [obs]
  have hlen : (addc 0 row (up :: List.replicate L 0)).length = row.length := addc_length _ _ _ (by simp [hL])
  rw [decl1 t k _ m (addc_dig _ _ _) (by omega) (by omega) (by omega), addc_val _ _ _ (by simp [hL]), v1, Int.add_zero, Int.emod_eq_of_lt (by have := val_nonneg hd; omega) hv, Int.toNat_natCast]
def sumd : List Int → Int
  | [] => 0
  | d :: l => d + sumd l
theorem sumd_pos : ∀ {l : List Int}, Dig l → 0 ≤ sumd l ∧ sumd l ≤ 9 * l.length ∧ (0 < sumd l ↔ 0 < val l)
  | [], _ => by simp [sumd, val]
  | d :: l, h => by
    have ih := sumd_pos (Dig.cons.1 h).2; have := (Dig.cons.1 h).1; have hn := val_nonneg (Dig.cons.1 h).2
    simp only [sumd, val, List.length_cons]; omega
theorem decl0 (row : List Int) (m : Bool) (c : Nat) (up0 : Int) (R : Int × Int × Int) (hd : Dig row) (hc : c + 1 < row.length) (hl : row.length ≤ 60) (K0 : Nat)
    (h : ∀ k, K0 ≤ k → soffitref01_dec.j1 k row m ((c : Int) + 1) up0 (decide (5 < val row / 10 ^ c % 10 ∨ (val row / 10 ^ c % 10 = 5 ∧ (0 < val row % 10 ^ c ∨ val row / 10 ^ (c + 1) % 10 % 2 = 1)))) = some R) (d : Nat) :
    ∀ (k i : Nat), i + d = c → K0 + d + 1 ≤ k → soffitref01_dec.l0 k row m ((c : Int) + 1) up0 (sumd (row.take i)) (i : Int) = some R := by
  have hget : ∀ j : Nat, j < row.length → rd row j = val row / 10 ^ j % 10 := by
    intro j hj
    have e := (val_drop hd j (by omega)).1
    rw [← e, List.drop_eq_getElem_cons hj]
    have : rd row j = row[j] := by unfold rd; rw [Int.toNat_natCast, List.getD_eq_getElem?_getD, List.getElem?_eq_getElem hj]; rfl
    have h9 := rd_dig hd j
    rw [this] at h9 ⊢
    simp only [val]; omega
  have ec : ((c : Int) + 1) - 1 = (c : Int) := by omega
  induction d with
  | zero =>
    intro k i hi hk
    obtain rfl : i = c := by omega
    obtain ⟨k, rfl⟩ := succ_of (show 0 < k by omega)
    have hs := sumd_pos (hd.take i)
    have hv := (val_drop hd i (by omega)).2
    rw [hv] at hs
    simp only [soffitref01_dec.l0]
    have e1 := hget i (by omega)
    have e2 := hget (i + 1) (by omega)
    have e3 : (((i + 1 : Nat)) : Int) = (i : Int) + 1 := by omega
    rw [e3] at e2
    rw [w64 (x := (i : Int) + 1 - 1) (by omega) (by omega), ec, if_neg (by omega), if_pos (by omega), if_pos (by omega), if_pos (by omega), if_pos (by omega), e1, e2]
    have hm9 : 0 ≤ val row / 10 ^ (i + 1) % 10 := by omega
    rw [Int.tmod_eq_emod_of_nonneg hm9]
    have hh := h k (by omega)
    by_cases g1 : val row / 10 ^ i % 10 > 5
    · rw [if_pos g1]; rw [decide_eq_true (by omega)] at hh; exact hh
    · rw [if_neg g1]
      by_cases g2 : val row / 10 ^ i % 10 = 5
      · rw [if_pos g2]
        by_cases g3 : sumd (row.take i) > 0
        · rw [if_pos g3]; rw [decide_eq_true (.inr ⟨g2, .inl (hs.2.2.1 g3)⟩)] at hh; exact hh
        · rw [if_neg g3]
          have g4 : ¬ 0 < val row % 10 ^ i := fun g => g3 (hs.2.2.2 g)
          have : decide (5 < val row / 10 ^ i % 10 ∨ (val row / 10 ^ i % 10 = 5 ∧ (0 < val row % 10 ^ i ∨ val row / 10 ^ (i + 1) % 10 % 2 = 1))) = (val row / 10 ^ (i + 1) % 10 % 2 == 1) := by
            rw [Bool.eq_iff_iff, decide_eq_true_eq, beq_iff_eq]
            constructor
            · rintro (g | ⟨_, g | g⟩)
              · exact absurd g g1
              · exact absurd g g4
              · exact g
            · intro g; exact .inr ⟨g2, .inr g⟩
          rw [this] at hh; exact hh
      · rw [if_neg g2]; rw [decide_eq_false (by omega)] at hh; exact hh
  | succ d ih =>
    intro k i hi hk
    obtain ⟨k, rfl⟩ := succ_of (show 0 < k by omega)
    have hs := sumd_pos (hd.take i); have h9 := rd_dig hd i
    have hlt : (row.take i).length ≤ 60 := by rw [List.length_take]; omega
    simp only [soffitref01_dec.l0]
    rw [w64 (x := (c : Int) + 1 - 1) (by omega) (by omega), ec, if_pos (by omega), if_pos (by omega), if_pos (by omega), w64 (x := sumd (row.take i) + rd row i) (by omega) (by omega), w64 (x := (i : Int) + 1) (by omega) (by omega)]
    have e : row.take (i + 1) = row.take i ++ [rd row i] := by
      rw [List.take_succ_eq_append_getElem (show i < row.length by omega)]
      unfold rd; rw [Int.toNat_natCast, List.getD_eq_getElem?_getD, List.getElem?_eq_getElem (by omega)]; rfl
    have es : ∀ (a : List Int) (x : Int), sumd (a ++ [x]) = sumd a + x := by
      intro a x
      induction a with
      | nil => simp [sumd]
      | cons y a ih => simp only [List.cons_append, sumd, ih]; omega
    have := ih k (i + 1) (by omega) (by omega)
    rw [e, es, show ((i + 1 : Nat) : Int) = (i : Int) + 1 by omega] at this
    exact this
theorem dec_row {k : Nat} (hk : 300 ≤ k) {row : List Int} {b : Int} {m : Bool} (hd : Dig row) (hl : row.length ≤ 60) (h0 : 0 ≤ b) (hroom : (b - 6).toNat + 8 ≤ row.length) (hval : val row < 10 ^ (row.length - 1)) :
    soffitref01_dec.f k row b m = some (decS (if 6 < b then rhe (val row) (10 ^ (b - 6).toNat) else val row) (mn b 6).toNat m) := by
  have hvn := val_nonneg hd
  unfold soffitref01_dec.f
  rw [w64 (x := b - 6) (by omega) (by omega)]
  by_cases h : b - 6 > 0
  · obtain ⟨c, hc⟩ : ∃ c : Nat, b - 6 = (c : Int) + 1 := ⟨(b - 6).toNat - 1, by omega⟩
    have hc' : (b - 6).toNat = c + 1 := by omega
    rw [if_pos h, if_pos (by omega), hc', rhe_digits _ _ hvn]
    have emn : (mn b 6).toNat = 6 := by unfold mn; rw [if_pos (by omega)]; rfl
    rw [emn]
    have hdrop := val_drop hd (c + 1) (by omega)
    have hdl : (row.drop (c + 1)).length = row.length - (c + 1) := List.length_drop ..
    have hvd : val (row.drop (c + 1)) + 1 < 10 ^ (row.drop (c + 1)).length := by
      rw [hdrop.1, hdl]
      have e1 : (10 : Int) ^ (row.length - 1) = 10 ^ (row.length - (c + 1) - 1) * 10 ^ (c + 1) := by rw [← Int.pow_add]; congr 1; omega
      have e2 : (10 : Int) ^ (row.length - (c + 1)) = 10 ^ (row.length - (c + 1) - 1) * 10 := by rw [← Int.pow_succ]; congr 1; omega
      have hlt : val row / 10 ^ (c + 1) < 10 ^ (row.length - (c + 1) - 1) := Int.ediv_lt_of_lt_mul (pow_pos _) (by rw [← e1]; exact hval)
      have hp := pow_pos (row.length - (c + 1) - 1)
      omega
    refine hc ▸ decl0 row m c 0 _ hd (by omega) hl 120 ?_ c k 0 (by omega) (by omega)
    intro k hk
    obtain ⟨k, rfl⟩ := succ_of (show 0 < k by omega)
    have ecc : ((c : Int) + 1).toNat = c + 1 := by omega
    simp only [soffitref01_dec.j1]
    by_cases g : 5 < val row / 10 ^ c % 10 ∨ (val row / 10 ^ c % 10 = 5 ∧ (0 < val row % 10 ^ c ∨ val row / 10 ^ (c + 1) % 10 % 2 = 1))
    · rw [if_pos (decide_eq_true g), if_pos (by omega), if_pos (by omega), ecc, decj2 (hd.drop _) (by decide) (by decide) (by omega) (by omega) (by decide) (by decide) hvd (by omega), if_pos g, hdrop.1]; rfl
    · rw [if_neg (by rw [decide_eq_false g]; simp), if_pos (by omega), if_pos (by omega), ecc, decj2 (hd.drop _) (by decide) (by decide) (by omega) (by omega) (by decide) (by decide) (by omega) (by omega), if_neg g, hdrop.1]; rfl
  · rw [if_neg h, if_neg (by omega)]
    have emn : mn b 6 = b := by unfold mn; rw [if_neg (by omega)]
    have hp := pow_pos (row.length - 1)
    have e2 : (10 : Int) ^ row.length = 10 ^ (row.length - 1) * 10 := by rw [← Int.pow_succ]; congr 1; omega
    rw [emn, decj2 hd h0 (by omega) (by omega) hl (by decide) (by decide) (by omega) (by omega), Int.add_zero]
end Go.Proofs.YtgkemhgihbfmmaaGreatDoor.PA
end
section
namespace Go.Proofs.YtgkemhgihbfmmaaGreatDoor.PA
open Go.RowKit Go.Proofs.YtgkemhgihbfmmaaGreatDoorW.PrintWords Go.Proofs.YtgkemhgihbfmmaaGreatDoorW.PrintLast Go.Proofs.YtgkemhgihbfmmaaGreatDoorW.PrintMore
open Go.Proofs.YtgkemhgihbfmmaaGreatDoor.M
theorem long_l0 (R : List Int) (n s : Int) (hs : s = 12 - R.length) (hs0 : 0 ≤ s) : ∀ (q p : List Int) (m k : Nat), p.length + q.length = 12 → m + (R.length + 12) = 60 → q.length < k →
    soffitref01_long.l0 k (R ++ (p ++ List.replicate (q.length + m) 0)) (p ++ q) (p.length : Int) n s = some (R ++ (p ++ (q ++ List.replicate m 0))) := by
  intro q
  induction q with
  | nil =>
    intro p m k hp hm hk
    obtain ⟨k, rfl⟩ := succ_of (by omega : 0 < k)
    rw [soffitref01_long.l0, if_neg (by simp only [List.length_nil] at hp; omega)]
    simp
  | cons d q ih =>
    intro p m k hp hm hk
    rw [List.length_cons] at hp hk
    obtain ⟨k, rfl⟩ := succ_of (by omega : 0 < k)
    have hix : wrap64 (wrap64 ((p.length : Int) + 12) - s) = ((R ++ p).length : Int) := by
      rw [w64 (x := (p.length : Int) + 12) (by omega) (by omega), w64 (by omega) (by omega), List.length_append]; omega
    have hlen : ((R ++ (p ++ List.replicate ((d :: q).length + m) (0 : Int))).length : Int) = 60 := by simp only [List.length_append, List.length_replicate, List.length_cons]; omega
    rw [soffitref01_long.l0, if_pos (by omega), if_pos (by omega), if_pos (by simp only [List.length_append, List.length_cons]; omega), hix, if_pos (by omega), hlen, if_pos (by rw [List.length_append]; omega), rd_app, Int.toNat_natCast]
    rw [w64 (x := (p.length : Int) + 1) (by omega) (by omega)]
    have e : R ++ (p ++ List.replicate ((d :: q).length + m) (0 : Int)) = (R ++ p) ++ 0 :: List.replicate (q.length + m) 0 := by
      rw [List.length_cons, show q.length + 1 + m = (q.length + m) + 1 by omega, List.replicate_succ, List.append_assoc]
    rw [e, set_app]
    have := ih (p ++ [d]) m k (by simp only [List.length_append, List.length_cons, List.length_nil]; omega) hm (by omega)
    have e2 : (((p ++ [d]).length : Nat) : Int) = (p.length : Int) + 1 := by simp
    rw [e2] at this
    simpa using this
def row (n s : Int) : List Int := List.replicate (12 - s).toNat 0 ++ (digs 12 (n.natAbs : Int) ++ List.replicate (36 + s).toNat 0)
theorem long_f {k : Nat} {n s : Int} (hk : 100 ≤ k) (h : Snd n s) : soffitref01_long.f k n s = some (row n s) := by
  obtain ⟨h0, h1, h2, h3, _⟩ := h
  unfold soffitref01_long.f
  rw [if_pos (by decide), refsize_f (by omega) (by omega)]
  simp only [obs]
  rw [show (12 : Int) = ((12 : Nat) : Int) from rfl, digits_f (by omega) (by omega) (by omega) (by omega)]
  simp only [obs]
  have := long_l0 (List.replicate (12 - s).toNat 0) n s (by simp only [List.length_replicate]; omega) h0 (digs 12 (n.natAbs : Int)) [] (36 + s).toNat k (by rw [digs_length]; rfl) (by simp only [List.length_replicate]; omega) (by rw [digs_length]; omega)
  rw [digs_length] at this
  have e : List.replicate (12 - s).toNat (0 : Int) ++ ([] ++ List.replicate (12 + (36 + s).toNat) 0) = List.replicate 60 0 := by
    rw [List.nil_append, List.replicate_append_replicate]; congr 1; omega
  rw [e] at this
  exact this
theorem row_length {n s : Int} (h : Snd n s) : (row n s).length = 60 := by
  obtain ⟨h0, h1, _⟩ := h
  unfold row; simp only [List.length_append, List.length_replicate, digs_length]; omega
theorem row_dig (n s : Int) : Dig (row n s) := Dig.append (Dig.replicate _) (Dig.append (digs_dig _ _) (Dig.replicate _))
theorem row_val {n s : Int} (h : Snd n s) : val (row n s) = ((un n s).natAbs : Int) * 10 ^ 6 := by
  obtain ⟨h0, h1, h2, h3, _⟩ := h
  unfold row
  rw [val_append, val_append, val_replicate, val_replicate, digs_val 12 _ (by omega) (by omega), List.length_replicate, Int.mul_zero, Int.add_zero, Int.zero_add]
  have e : ((un n s).natAbs : Int) = (n.natAbs : Int) * 10 ^ (6 - s).toNat := by
    have := pow_pos (6 - s).toNat
    unfold un; rw [Int.natAbs_mul, Int.natCast_mul]; congr 1
  rw [e, Int.mul_assoc, ← Int.pow_add, Int.mul_comm, show (6 - s).toNat + 6 = (12 - s).toNat by omega]
theorem less_l0 (a b : List Int) (ha : Dig a) (hb : Dig b) (hl : a.length = b.length) (hm : a.length ≤ 1000) : ∀ (i k : Nat), i ≤ a.length → i < k →
    soffitref01_less.l0 k a b ((i : Int) - 1) = some (decide (val (a.take i) < val (b.take i))) := by
  intro i
  induction i with
  | zero =>
    intro k _ hk
    obtain ⟨k, rfl⟩ := succ_of (by omega : 0 < k)
    rw [soffitref01_less.l0, if_neg (by omega)]; simp [val]
  | succ i ih =>
    intro k hi hk
    obtain ⟨k, rfl⟩ := succ_of (by omega : 0 < k)
    rw [soffitref01_less.l0, show ((i + 1 : Nat) : Int) - 1 = (i : Int) by omega, if_pos (by omega), if_pos (by omega), if_pos (by omega), if_pos (by omega)]
    have ta : a.take (i + 1) = a.take i ++ [rd a i] := by
      rw [List.take_add_one]; unfold rd; rw [Int.toNat_natCast, List.getD_eq_getElem?_getD, List.getElem?_eq_getElem (by omega)]; rfl
    have tb : b.take (i + 1) = b.take i ++ [rd b i] := by
      rw [List.take_add_one]; unfold rd; rw [Int.toNat_natCast, List.getD_eq_getElem?_getD, List.getElem?_eq_getElem (by omega)]; rfl
    rw [ta, tb, val_append, val_append, List.length_take, List.length_take, show min i a.length = i by omega, show min i b.length = i by omega]
    have va := val_lt (ha.take i); have vb := val_lt (hb.take i)
    have na := val_nonneg (ha.take i); have nb := val_nonneg (hb.take i)
    rw [List.length_take, show min i a.length = i by omega] at va
    rw [List.length_take, show min i b.length = i by omega] at vb
    simp only [val, Int.mul_zero, Int.add_zero]
    by_cases h : rd a i = rd b i
    · rw [if_pos h, w64 (by omega) (by omega), ih k (by omega) (by omega), h]
      congr 1; rw [decide_eq_decide]; omega
    · rw [if_neg h]
      congr 1; rw [decide_eq_decide]
      generalize rd a i = x at h ⊢
      generalize rd b i = y at h ⊢
      generalize (10 : Int) ^ i = P at va vb ⊢
      constructor
      · intro g
        have : P * (x + 1) ≤ P * y := Int.mul_le_mul_of_nonneg_left (by omega) (by omega)
        rw [Int.mul_add, Int.mul_one] at this; omega
      · intro g
        by_cases q : x < y
        · exact q
        · have : P * (y + 1) ≤ P * x := Int.mul_le_mul_of_nonneg_left (by omega) (by omega)
          rw [Int.mul_add, Int.mul_one] at this; omega
theorem less_f {k : Nat} {a b : List Int} (ha : Dig a) (hb : Dig b) (hl : a.length = b.length) (hm : a.length ≤ 1000) (hk : a.length < k) :
    soffitref01_less.f k a b = some (decide (val a < val b)) := by
  unfold soffitref01_less.f
  rw [w64 (by omega) (by omega), less_l0 a b ha hb hl hm a.length k (by omega) hk, List.take_length, hl, List.take_length]
def subc : Int → List Int → List Int → List Int
  | c, x :: xs, y :: ys => (x - y - c) % 10 :: subc (if x - y - c < 0 then 1 else 0) xs ys
  | _, _, _ => []
theorem subc_length : ∀ (a b : List Int) (c : Int), a.length = b.length → (subc c a b).length = a.length
  | [], [], _, _ => rfl
  | x :: xs, y :: ys, c, h => by simp [subc, subc_length xs ys _ (by simpa using h)]
  | [], _ :: _, _, h => by simp at h
  | _ :: _, [], _, h => by simp at h
theorem subc_dig : ∀ (a b : List Int) (c : Int), Dig (subc c a b)
  | [], [], _ => Dig.nil
  | [], _ :: _, _ => Dig.nil
  | _ :: _, [], _ => Dig.nil
  | x :: xs, y :: ys, c => Dig.cons.2 ⟨by omega, subc_dig xs ys _⟩
theorem subc_val : ∀ (a b : List Int) (c : Int), a.length = b.length → Dig a → Dig b → 0 ≤ c → c ≤ 1 → ∃ β : Int, 0 ≤ β ∧ val (subc c a b) = val a - val b - c + 10 ^ a.length * β
  | [], [], c, _, _, _, h0, h1 => ⟨c, h0, by simp [subc, val]; omega⟩
  | [], _ :: _, _, h, _, _, _, _ => by simp at h
  | _ :: _, [], _, h, _, _, _, _ => by simp at h
  | x :: xs, y :: ys, c, h, ha, hb, h0, h1 => by
    have hx := (Dig.cons.1 ha).1; have hy := (Dig.cons.1 hb).1
    obtain ⟨β, g0, g⟩ := subc_val xs ys (if x - y - c < 0 then 1 else 0) (by simpa using h) (Dig.cons.1 ha).2 (Dig.cons.1 hb).2 (by split <;> omega) (by split <;> omega)
    refine ⟨β, g0, ?_⟩
    simp only [subc, val, g, List.length_cons, Int.pow_succ]
    rw [Int.mul_comm _ 10, Int.mul_assoc]
    generalize (10 : Int) ^ xs.length * β = Q
    split <;> omega
theorem minus_l0 : ∀ (la lb : List Int) (k : Nat) (pa pb p : List Int) (c : Int), la.length = lb.length → Dig la → Dig lb → 0 ≤ c → c ≤ 1 → pa.length = p.length → pb.length = p.length → la.length < k → p.length + la.length ≤ 1000 →
    soffitref01_minus.l0 k (pa ++ la) (pb ++ lb) (p ++ List.replicate la.length 0) c (p.length : Int) = some (p ++ subc c la lb)
  | [], [], k, pa, pb, p, c, _, _, _, _, _, hpa, _, hk, _ => by
    obtain ⟨k, rfl⟩ := succ_of (show 0 < k by omega)
    simp only [soffitref01_minus.l0]; rw [if_neg (by simp; omega)]; simp [subc]
  | [], _ :: _, _, _, _, _, _, h, _, _, _, _, _, _, _, _ => by simp at h
  | _ :: _, [], _, _, _, _, _, h, _, _, _, _, _, _, _, _ => by simp at h
  | x :: la, y :: lb, k, pa, pb, p, c, h, ha, hb, h0, h1, hpa, hpb, hk, hl => by
    obtain ⟨k, rfl⟩ := succ_of (show 0 < k by omega)
    have hx := (Dig.cons.1 ha).1; have hy := (Dig.cons.1 hb).1
    have hh : la.length = lb.length := by simpa using h
    simp only [List.length_cons] at hk hl
    simp only [soffitref01_minus.l0]
    have ra : rd (pa ++ x :: la) (p.length : Int) = x := by rw [← hpa]; exact rd_app pa x la
    have rb : rd (pb ++ y :: lb) (p.length : Int) = y := by rw [← hpb]; exact rd_app pb y lb
    rw [if_pos (by simp; omega), if_pos (by omega), if_pos (by simp; omega), ra, rb, w64 (x := x - y) (by omega) (by omega), w64 (x := x - y - c) (by omega) (by omega),
      w64 (x := (p.length : Int) + 1) (by omega) (by omega), Int.toNat_natCast, List.length_cons, List.replicate_succ, set_app, set_app]
    have key : ∀ d c' : Int, d = (x - y - c) % 10 → c' = (if x - y - c < 0 then 1 else 0) → soffitref01_minus.l0 k (pa ++ x :: la) (pb ++ y :: lb) (p ++ d :: List.replicate la.length 0) c' ((p.length : Int) + 1) = some (p ++ subc c (x :: la) (y :: lb)) := by
      intro d c' hd hc
      have := minus_l0 la lb k (pa ++ [x]) (pb ++ [y]) (p ++ [d]) c' hh (Dig.cons.1 ha).2 (Dig.cons.1 hb).2 (by rw [hc]; split <;> omega) (by rw [hc]; split <;> omega) (by simp; omega) (by simp; omega) (by omega) (by simp; omega)
      simp only [List.length_append, List.length_singleton, List.append_assoc, List.singleton_append] at this
      rw [show ((p.length + 1 : Nat) : Int) = (p.length : Int) + 1 by omega] at this
      rw [this, subc, hd, hc]
    have hlen : ((p ++ 0 :: List.replicate la.length (0 : Int)).length : Int) = (p.length : Int) + (la.length : Int) + 1 := by simp only [List.length_append, List.length_cons, List.length_replicate]; omega
    rw [hlen]
    by_cases g : x - y - c < 0
    · rw [if_pos g, if_pos (by omega), w64 (by omega) (by omega)]
      exact key _ _ (by omega) (by rw [if_pos g])
    · rw [if_neg g, if_pos (by omega)]
      exact key _ _ (by omega) (by rw [if_neg g])
theorem minus_f {k : Nat} {a b : List Int} (h : a.length = b.length) (ha : Dig a) (hb : Dig b) (hk : a.length < k) (hl : a.length ≤ 1000) (hv : val b ≤ val a) :
    ∃ r, soffitref01_minus.f k a b = some r ∧ Dig r ∧ r.length = a.length ∧ val r = val a - val b := by
  refine ⟨subc 0 a b, ?_, subc_dig _ _ _, subc_length _ _ _ h, ?_⟩
  · unfold soffitref01_minus.f
    rw [if_pos (by omega), if_pos (by omega), Int.toNat_natCast]
    have := minus_l0 a b k [] [] [] 0 h ha hb (by decide) (by decide) rfl rfl hk (by simpa using hl)
    simpa using this
  · obtain ⟨β, g0, g⟩ := subc_val a b 0 h ha hb (by decide) (by decide)
    have h1 := val_lt (subc_dig a b 0)
    rw [subc_length _ _ _ h] at h1
    have h2 := val_lt ha
    have hp := pow_pos a.length
    by_cases q : β = 0
    · rw [g, q]; omega
    · have : (10 : Int) ^ a.length * 1 ≤ 10 ^ a.length * β := Int.mul_le_mul_of_nonneg_left (by omega) (by omega)
      omega
theorem dec12 {k : Nat} (hk : 300 ≤ k) {r : List Int} {m : Bool} {u : Int} (hd : Dig r) (hl : r.length = 60) (hu : 0 ≤ u) (hu' : u ≤ 10000000000000000000) (hv : val r = u * 10 ^ 6) :
    soffitref01_dec.f k r 12 m = some (decS u 6 m) := by
  rw [dec_row hk hd (by omega) (by decide) (by omega) (by rw [hv, hl]; omega), if_pos (by decide), hv, show ((12 : Int) - 6).toNat = 6 from rfl, rhe_exact u _ (by decide)]
  rfl
theorem un_neg {n s : Int} : un n s < 0 ↔ n < 0 := by
  have hp := pow_pos (6 - s).toNat
  unfold un
  constructor
  · intro g; by_cases q : n < 0
    · exact q
    · have := Int.mul_nonneg (show 0 ≤ n by omega) (Int.le_of_lt hp); omega
  · intro g; exact Int.mul_neg_of_neg_of_pos g hp
theorem refadd_ff {k : Nat} (hk : 400 ≤ k) (n s n' s' : Int) : soffitref01_Add.f k n s n' s' = some (addS n s n' s') := by
  unfold soffitref01_Add.f addS
  rw [refsound_f (by omega), refsound_f (by omega)]
  simp only [obs]
  obtain ⟨k, rfl⟩ := succ_of (by omega : 0 < k)
  by_cases h : Snd n s
  · rw [if_pos (by simpa using h)]
    by_cases h' : Snd n' s'
    · rw [if_pos ⟨h, h'⟩, soffitref01_Add.j0, if_neg (by simpa using h'), long_f (by omega) h, long_f (by omega) h']
      simp only [obs]
      have b := un_bound h; have b' := un_bound h'
      have l := row_length h; have l' := row_length h'
      have v := row_val h; have v' := row_val h'
      have d := row_dig n s; have d' := row_dig n' s'
      have s1 := un_neg (n := n) (s := s); have s2 := un_neg (n := n') (s := s')
      by_cases g : n < 0 ↔ n' < 0
      · rw [if_pos (by simpa using g), plus_f (by omega) d d' (by omega) (by omega)]
        simp only [obs]
        have va : val (addc 0 (row n s) (row n' s')) = (((un n s).natAbs : Int) + ((un n' s').natAbs : Int)) * 10 ^ 6 := by
          rw [addc_val _ _ _ (by omega), v, v', l, Int.add_zero, ← Int.add_mul]; apply Int.emod_eq_of_lt <;> omega
        rw [dec12 (by omega) (addc_dig _ _ _) (by rw [addc_length _ _ _ (by omega), l]) (by omega) (by omega) va]
        simp only [obs]
        have e1 : (((un n s).natAbs : Int) + ((un n' s').natAbs : Int)) = ((un n s + un n' s').natAbs : Int) := by omega
        have e2 : decide (n < 0) = decide (un n s + un n' s' < 0) := by rw [decide_eq_decide]; omega
        rw [e1, e2]
      · rw [if_neg (by simpa using g), less_f d d' (by omega) (by omega) (by omega)]
        simp only [obs]
        rw [v, v']
        by_cases q : ((un n s).natAbs : Int) * 10 ^ 6 < ((un n' s').natAbs : Int) * 10 ^ 6
        · rw [if_pos (by simpa using q)]
          obtain ⟨r, e, hd, hl, hv⟩ := minus_f (k := k) (a := row n' s') (b := row n s) (by omega) d' d (by omega) (by omega) (by omega)
          rw [e]
          simp only [obs]
          rw [dec12 (by omega) (u := ((un n' s').natAbs : Int) - ((un n s).natAbs : Int)) hd (by omega) (by omega) (by omega) (by rw [hv, v, v', Int.sub_mul])]
          simp only [obs]
          rw [show ((un n' s').natAbs : Int) - ((un n s).natAbs : Int) = ((un n s + un n' s').natAbs : Int) by omega, show decide (n' < 0) = decide (un n s + un n' s' < 0) by rw [decide_eq_decide]; omega]
        · rw [if_neg (by simpa using q)]
          obtain ⟨r, e, hd, hl, hv⟩ := minus_f (k := k) (a := row n s) (b := row n' s') (by omega) d d' (by omega) (by omega) (by omega)
          rw [e]
          simp only [obs]
          rw [dec12 (by omega) (u := ((un n s).natAbs : Int) - ((un n' s').natAbs : Int)) hd (by omega) (by omega) (by omega) (by rw [hv, v, v', Int.sub_mul])]
          simp only [obs]
          rw [show ((un n s).natAbs : Int) - ((un n' s').natAbs : Int) = ((un n s + un n' s').natAbs : Int) by omega]
          by_cases z : un n s + un n' s' = 0
          · rw [z]
            cases decide (n < 0) <;> decide
          · rw [show decide (n < 0) = decide (un n s + un n' s' < 0) by rw [decide_eq_decide]; omega]
    · rw [if_neg (fun q => h' q.2), soffitref01_Add.j0, if_pos (by simpa using h')]
  · rw [if_neg (by simpa using h), if_neg (fun q => h q.1), soffitref01_Add.j0, if_pos rfl]
end Go.Proofs.YtgkemhgihbfmmaaGreatDoor.PA
end
section
namespace Go.Proofs.YtgkemhgihbfmmaaGreatDoor.PA
open Go.RowKit Go.Proofs.YtgkemhgihbfmmaaGreatDoorW.PrintWords Go.Proofs.YtgkemhgihbfmmaaGreatDoorW.PrintLast Go.Proofs.YtgkemhgihbfmmaaGreatDoorW.PrintMore
open Go.Proofs.YtgkemhgihbfmmaaGreatDoor.M
theorem awake_adds : soffitlaw01_awake.f 500 = some true := by decide +kernel
theorem deciAdds_true (n s n' s' : Int) (_ : -9223372036854775808 ≤ n ∧ n ≤ 9223372036854775807) (_ : -9223372036854775808 ≤ s ∧ s ≤ 9223372036854775807)
    (_ : -9223372036854775808 ≤ n' ∧ n' ≤ 9223372036854775807) (_ : -9223372036854775808 ≤ s' ∧ s' ≤ 9223372036854775807) : soffitlaw01_DeciAdds.f 500 n s n' s' = some true := by
  unfold soffitlaw01_DeciAdds.f
  rw [add_ff (by omega), refadd_ff (by omega), awake_adds]
  simp
end Go.Proofs.YtgkemhgihbfmmaaGreatDoor.PA
end
