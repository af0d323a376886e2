/- Part 22 of the proof for CalcThree: functions of the program as plain Lean functions, their calls, and what they come to. -/
import Derived.Deep.LoopGhost
import Derived.Lib.OwnBridge
import GoSem.Core.Utf8
import Derived.RowKit
import Derived.Test.YtgkemhgihbfmmaaGreatDoorCalcThreeK18
import Derived.Test.YtgkemhgihbfmmaaGreatDoorCalcThreeK17
import Derived.Test.YtgkemhgihbfmmaaGreatDoorCalcThreeK20
import Derived.Test.YtgkemhgihbfmmaaGreatDoorCalcThreeK19
set_option linter.unusedVariables false
set_option linter.unusedSimpArgs false
section
namespace Go.Proofs.YtgkemhgihbfmmaaGreatDoor.PA
open Go.RowKit Go.Proofs.YtgkemhgihbfmmaaGreatDoorW.PrintWords Go.Proofs.YtgkemhgihbfmmaaGreatDoorW.PrintLast Go.Proofs.YtgkemhgihbfmmaaGreatDoorW.PrintMore
abbrev cells27 (x : S27) : Array Value := #[.string x.f0, .int .i64 x.f1.f0, .int .i64 x.f1.f1.f0, .int .i64 x.f1.f1.f1, .string x.f1.f2, .int .i64 x.f1.f3]
def fnd (p : S27 → Option Bool) : List S27 → Nat → Option Int
  | [], _ => some (-1)
  | y :: t, i => (p y).bind fun b => if b = true then some (i : Int) else fnd p t (i + 1)
def Gives27 (g : Nat) (lb : Array Value) (p : S27 → Option Bool) (w : World) : Prop := ∀ (W : World) (x : S27) (b : Bool), Below w.heap.size w W → p x = some b → Calls Tryz.prog g (#[.agg (cells27 x)] ++ lb) W fun e w' => e = .returned (.bool b) ∧ Below w.heap.size w w'
theorem drop_at27 {l : List S27} {i : Nat} (h : i < l.length) : l.drop i = rd_T27 l (i : Int) :: l.drop (i + 1) := by
  rw [List.drop_eq_getElem_cons h]
  congr 1
  show _ = l.getD (Int.toNat (i : Int)) z27
  rw [Int.toNat_natCast, List.getD_eq_getElem?_getD, List.getElem?_eq_getElem h, Option.getD_some]
set_option maxHeartbeats 4000000 in
set_option maxRecDepth 100000 in
theorem idx27s (g : Nat) (lb : Array Value) (p : S27 → Option Bool) (eg : ∀ args w, (callFunc g args).run Tryz.prog w = .ok (.enter g args) w) (l : List S27) (A0 : Option Addr) (c0 : Nat) (r : Int) (w : World) (hC : Kd.C k27 w A0 l.length l) (hp : Gives27 g lb p w) (hbig : l.length < 4611686018427387904) (h : fnd p l 0 = some r) :
    Calls Tryz.prog 76 #[.slice A0 l.length c0, .func (.func g) #[] lb] w fun e w' => e = .returned (.int .i64 r) ∧ Below w.heap.size w w' := by
  have hu27 := Tryz.underlying27
  have H0 : Aside0 (fnd p (l.drop 0) 0 = some r) := ⟨h⟩
  have HC := Aside0.mk hC
  clear h hC
  go_enter Tryz.func76, Tryz.ntmps76
  go_wp2
  go_loopg [5, 8] l.length (fun gg _ s8 wr => ∃ (kk : Nat), kk + gg = l.length ∧ s8 = .int .i64 kk ∧ Aside0 (fnd p (l.drop kk) kk = some r) ∧ Aside0 (Below w.heap.size w wr))
  case atStart => exact ⟨0, Nat.zero_add _, rfl, H0, ⟨Below.refl _ _⟩⟩
  case round =>
    obtain ⟨kk, hkg, rfl, HA, HB1⟩ := hrel
    cases gk with
    | zero =>
      have d1 : decide ((kk : Int) < (l.length : Int)) = false := decide_eq_false (by omega)
      have hA := HA.out
      rw [List.drop_eq_nil_of_le (by omega)] at hA
      simp only [fnd, Option.some.injEq] at hA
      subst hA
      go_wp2
      go_ret
      exact ⟨rfl, HB1.out⟩
    | succ n =>
      have d1 : decide ((kk : Int) < (l.length : Int)) = true := decide_eq_true (by omega)
      have p1 : (0 : Int) ≤ (kk : Int) := by omega
      have q1 : (kk : Int) < (l.length : Int) := by omega
      obtain ⟨ad, e1, h0, h1, h2, h3, h4, h5⟩ := at_T27 HC.out (kk : Int) p1 q1
      cases e1
      have hA := HA.out
      rw [drop_at27 (by omega)] at hA
      generalize hy : rd_T27 l (kk : Int) = y at hA h0 h1 h2 h3 h4 h5
      clear hy
      have h0 : wr.cell? (ad.add (kk * 6)) = some (.string y.f0) := pw_cell_below HB1.out h0
      have h1 : wr.cell? ⟨(ad.add (kk * 6)).block, (ad.add (kk * 6)).off + 1, none⟩ = some (.int .i64 y.f1.f0) := pw_cell_below HB1.out h1
      have h2 : wr.cell? ⟨(ad.add (kk * 6)).block, (ad.add (kk * 6)).off + 2, none⟩ = some (.int .i64 y.f1.f1.f0) := pw_cell_below HB1.out h2
      have h3 : wr.cell? ⟨(ad.add (kk * 6)).block, (ad.add (kk * 6)).off + 3, none⟩ = some (.int .i64 y.f1.f1.f1) := pw_cell_below HB1.out h3
      have h4 : wr.cell? ⟨(ad.add (kk * 6)).block, (ad.add (kk * 6)).off + 4, none⟩ = some (.string y.f1.f2) := pw_cell_below HB1.out h4
      have h5 : wr.cell? ⟨(ad.add (kk * 6)).block, (ad.add (kk * 6)).off + 5, none⟩ = some (.int .i64 y.f1.f3) := pw_cell_below HB1.out h5
      have i1 := eq_true p1
      have i2 := eq_true q1
      have i3 : (kk < l.length) = True := eq_true (by omega)
      simp only [fnd] at hA
      replace hA := Option.bind_eq_some_iff.mp hA
      obtain ⟨b1, hIs, hA⟩ := hA
      have cI := hp wr y b1 HB1.out hIs
      have HA2 := Aside0.mk hA
      clear hA hIs hp
      cases b1 with
      | false =>
        have hr := HA2.out
        simp only [Bool.false_eq_true, if_false] at hr
        have HA3 := Aside0.mk hr
        clear hr
        go_wp2_with (go_at_fn g; refine cI.mono ?_; rintro e w' ⟨rfl, hb⟩)
        go_roundg n
        case measure => omega
        case rel => exact ⟨kk + 1, by omega, by go_num, HA3, ⟨hb⟩⟩
      | true =>
        have hr := HA2.out
        simp only [if_true, Option.some.injEq] at hr
        subst hr
        go_wp2_with (go_at_fn g; refine cI.mono ?_; rintro e w' ⟨rfl, hb⟩)
        go_ret
        exact ⟨rfl, hb⟩
set_option maxHeartbeats 4000000 in
set_option maxRecDepth 100000 in
theorem idx27b (g : Nat) (lb : Array Value) (p : S27 → Option Bool) (eg : ∀ args w, (callFunc g args).run Tryz.prog w = .ok (.enter g args) w) (l : List S27) (A0 : Option Addr) (c0 : Nat) (r : Int) (w : World) (hC : Kd.C k27 w A0 l.length l) (hp : Gives27 g lb p w) (hbig : l.length < 4611686018427387904) (h : fnd p l 0 = some r) :
    Calls Tryz.prog 69 #[.slice A0 l.length c0, .func (.func g) #[] lb] w fun e w' => e = .returned (.int .i64 r) ∧ Below w.heap.size w w' := by
  have hu27 := Tryz.underlying27
  have H0 : Aside0 (fnd p (l.drop 0) 0 = some r) := ⟨h⟩
  have HC := Aside0.mk hC
  clear h hC
  go_enter Tryz.func69, Tryz.ntmps69
  go_wp2
  go_loopg [5, 8] l.length (fun gg _ s8 wr => ∃ (kk : Nat), kk + gg = l.length ∧ s8 = .int .i64 kk ∧ Aside0 (fnd p (l.drop kk) kk = some r) ∧ Aside0 (Below w.heap.size w wr))
  case atStart => exact ⟨0, Nat.zero_add _, rfl, H0, ⟨Below.refl _ _⟩⟩
  case round =>
    obtain ⟨kk, hkg, rfl, HA, HB1⟩ := hrel
    cases gk with
    | zero =>
      have d1 : decide ((kk : Int) < (l.length : Int)) = false := decide_eq_false (by omega)
      have hA := HA.out
      rw [List.drop_eq_nil_of_le (by omega)] at hA
      simp only [fnd, Option.some.injEq] at hA
      subst hA
      go_wp2
      go_ret
      exact ⟨rfl, HB1.out⟩
    | succ n =>
      have d1 : decide ((kk : Int) < (l.length : Int)) = true := decide_eq_true (by omega)
      have p1 : (0 : Int) ≤ (kk : Int) := by omega
      have q1 : (kk : Int) < (l.length : Int) := by omega
      obtain ⟨ad, e1, h0, h1, h2, h3, h4, h5⟩ := at_T27 HC.out (kk : Int) p1 q1
      cases e1
      have hA := HA.out
      rw [drop_at27 (by omega)] at hA
      generalize hy : rd_T27 l (kk : Int) = y at hA h0 h1 h2 h3 h4 h5
      clear hy
      have h0 : wr.cell? (ad.add (kk * 6)) = some (.string y.f0) := pw_cell_below HB1.out h0
      have h1 : wr.cell? ⟨(ad.add (kk * 6)).block, (ad.add (kk * 6)).off + 1, none⟩ = some (.int .i64 y.f1.f0) := pw_cell_below HB1.out h1
      have h2 : wr.cell? ⟨(ad.add (kk * 6)).block, (ad.add (kk * 6)).off + 2, none⟩ = some (.int .i64 y.f1.f1.f0) := pw_cell_below HB1.out h2
      have h3 : wr.cell? ⟨(ad.add (kk * 6)).block, (ad.add (kk * 6)).off + 3, none⟩ = some (.int .i64 y.f1.f1.f1) := pw_cell_below HB1.out h3
      have h4 : wr.cell? ⟨(ad.add (kk * 6)).block, (ad.add (kk * 6)).off + 4, none⟩ = some (.string y.f1.f2) := pw_cell_below HB1.out h4
      have h5 : wr.cell? ⟨(ad.add (kk * 6)).block, (ad.add (kk * 6)).off + 5, none⟩ = some (.int .i64 y.f1.f3) := pw_cell_below HB1.out h5
      have i1 := eq_true p1
      have i2 := eq_true q1
      have i3 : (kk < l.length) = True := eq_true (by omega)
      simp only [fnd] at hA
      replace hA := Option.bind_eq_some_iff.mp hA
      obtain ⟨b1, hIs, hA⟩ := hA
      have cI := hp wr y b1 HB1.out hIs
      have HA2 := Aside0.mk hA
      clear hA hIs hp
      cases b1 with
      | false =>
        have hr := HA2.out
        simp only [Bool.false_eq_true, if_false] at hr
        have HA3 := Aside0.mk hr
        clear hr
        go_wp2_with (go_at_fn g; refine cI.mono ?_; rintro e w' ⟨rfl, hb⟩)
        go_roundg n
        case measure => omega
        case rel => exact ⟨kk + 1, by omega, by go_num, HA3, ⟨hb⟩⟩
      | true =>
        have hr := HA2.out
        simp only [if_true, Option.some.injEq] at hr
        subst hr
        go_wp2_with (go_at_fn g; refine cI.mono ?_; rintro e w' ⟨rfl, hb⟩)
        go_ret
        exact ⟨rfl, hb⟩
def standin_IndexName.f (l0 : List S27) (_a0 _a1 _a2 _a3 : Int) (_a4 : ByteArray) (_a5 : Int) (a6 : ByteArray) (_l7 : List S31) : Option Int := if l0.length < 4611686018427387904 then fnd (fun y => some (y.f0.toList == a6.toList)) l0 0 else none
set_option maxHeartbeats 4000000 in
set_option maxRecDepth 100000 in
theorem gives77 (gx : Nat) (a1_0 a1_1 a1_2 a1_3 : Int) (a1_4 : ByteArray) (a1_5 : Int) (a1_6 : ByteArray) (v : Value) (w : World) (hX : w.heap[gx]? = some (.cells #[.int .i64 a1_0, .int .i64 a1_1, .int .i64 a1_2, .int .i64 a1_3, .string a1_4, .int .i64 a1_5, .string a1_6, v] 31 (0, 0))) :
    Gives27 77 #[.pointer (some ⟨gx, 0, none⟩)] (fun y => some (y.f0.toList == a1_6.toList)) w := fun W x b hb hp => by
  show Calls Tryz.prog 77 #[.agg (cells27 x), .pointer (some ⟨gx, 0, none⟩)] W _
  have hXW := (hb.block gx (blk_lt hX)).trans hX
  obtain rfl := Option.some.inj hp
  have HB := Aside0.mk hb
  have HX := Aside0.mk hXW
  have hu27 := Tryz.underlying27
  have hu31 := Tryz.underlying31
  clear hb hXW hX hp
  go_enter Tryz.func77, Tryz.ntmps77
  go_wp2_with ((with_reducible refine gate_dst (N := 2) rfl ?_); refine bev (cells27 x) 27 ?_; intro gb hgb w1 hbox hb1
               have HB1 := Aside0.mk (HB.out.trans (hb1.mono HB.out.size)); have x6 : w1.cell? ⟨gx, 6, none⟩ = some (.string a1_6) := (blk_cell (blk_below HX.out hb1) 6).trans rfl; have y0 : w1.cell? ⟨gb, 0, none⟩ = some (.string x.f0) := (blk_cell hbox 0).trans rfl
               clear hgb hbox hb1)
  go_ret
  exact ⟨rfl, HB1.out⟩
theorem standin_IndexName.calls (A0 : Option Addr) (c0 : Nat) (l0 : List S27) (a1_0 a1_1 a1_2 a1_3 : Int) (a1_4 : ByteArray) (a1_5 : Int) (a1_6 : ByteArray) (A1_7 : Option Addr) (c1_7 : Nat) (l1_7 : List S31) (r : Int) (w : World) (hr0 : Kd.C k27 w A0 l0.length l0) (hc0 : l0.length ≤ c0) (hr1_7 : Kd.C k31 w A1_7 l1_7.length l1_7) (hc1_7 : l1_7.length ≤ c1_7)
    (gx : Nat) (hX : w.heap[gx]? = some (.cells #[.int .i64 a1_0, .int .i64 a1_1, .int .i64 a1_2, .int .i64 a1_3, .string a1_4, .int .i64 a1_5, .string a1_6, .slice A1_7 l1_7.length c1_7] 31 (0, 0))) (h : standin_IndexName.f l0 a1_0 a1_1 a1_2 a1_3 a1_4 a1_5 a1_6 l1_7 = some r) :
    Calls Tryz.prog 76 #[.slice A0 l0.length c0, .func (.func 77) #[] #[.pointer (some ⟨gx, 0, none⟩)]] w fun e w' => e = .returned (.int .i64 r) ∧ Below w.heap.size w w' := by
  unfold standin_IndexName.f at h
  split at h
  · rename_i hbig
    exact idx27s 77 _ _ (enters_of Tryz.func77 (by kernel_rfl) rfl) l0 A0 c0 r w hr0 (gives77 gx a1_0 a1_1 a1_2 a1_3 a1_4 a1_5 a1_6 _ w hX) hbig h
  · cases h
set_option maxHeartbeats 4000000 in
set_option maxRecDepth 100000 in
theorem has27 (g : Nat) (lb : Array Value) (p : S27 → Option Bool) (eg : ∀ args w, (callFunc g args).run Tryz.prog w = .ok (.enter g args) w) (l : List S27) (A0 : Option Addr) (c0 : Nat) (r : Int) (w : World) (hC : Kd.C k27 w A0 l.length l) (hp : Gives27 g lb p w) (hbig : l.length < 4611686018427387904) (h : fnd p l 0 = some r) :
    Calls Tryz.prog 36 #[.slice A0 l.length c0, .func (.func g) #[] lb] w fun e w' => e = .returned (.bool (decide (0 ≤ r))) ∧ Below w.heap.size w w' := by
  have cI := idx27b g lb p eg l A0 c0 r w hC hp hbig h
  clear hC hp hbig h eg
  go_enter Tryz.func36, Tryz.ntmps36
  go_wp2_with (go_at_call 69; refine cI.mono ?_; rintro e w' ⟨rfl, hb⟩)
  go_ret
  exact ⟨rfl, hb⟩
set_option maxHeartbeats 4000000 in
set_option maxRecDepth 100000 in
theorem gives37 (k : Nat) (w : World) (hT : Tabs w) : Gives27 37 #[] (fun y => (value_Sound.f k y.f1.f0 y.f1.f1.f0 y.f1.f1.f1 y.f1.f2 y.f1.f3).bind fun ok => some (!ok)) w := fun W x b hb hp => by
  show Calls Tryz.prog 37 #[.agg (cells27 x)] W _
  obtain ⟨ok, hv, hp⟩ := Option.bind_eq_some_iff.mp hp
  obtain rfl := Option.some.inj hp
  have HB := Aside0.mk hb
  have HV := Aside0.mk hv
  have HT := Aside0.mk (tabs_of hT hb)
  have hu27 := Tryz.underlying27
  have hu25 := Tryz.underlying25
  clear hb hp hT hv
  go_enter Tryz.func37, Tryz.ntmps37
  go_wp2_with (first
    | ((with_reducible refine gate_dst (N := 1) rfl ?_); refine bev (cells27 x) 27 ?_; intro gb hgb w1 hbox hb1
       have HB1 := Aside0.mk (HB.out.trans (hb1.mono HB.out.size)); have HT1 := Aside0.mk (tabs_of HT.out hb1); obtain ⟨y0, y1, y2, y3, y4, y5, _⟩ := cz6 hbox
       clear hgb hbox hb1)
    | (go_at_call 38; refine (value_Sound.calls k _ _ _ _ _ _ _ HT1.out HV.out).mono ?_; rintro e w2 ⟨rfl, hb2⟩))
  go_ret
  exact ⟨rfl, HB1.out.trans (hb2.mono HB1.out.size)⟩
set_option maxHeartbeats 4000000 in
set_option maxRecDepth 100000 in
theorem gives40 (gn : Nat) (n : ByteArray) (w : World) (hX : w.heap[gn]? = some (.cells #[.string n] 9 (0, 0))) : Gives27 40 #[.pointer (some ⟨gn, 0, none⟩)] (fun y => some (y.f0.toList == n.toList)) w := fun W x b hb hp => by
  show Calls Tryz.prog 40 #[.agg (cells27 x), .pointer (some ⟨gn, 0, none⟩)] W _
  have hXW := (hb.block gn (blk_lt hX)).trans hX
  obtain rfl := Option.some.inj hp
  have HB := Aside0.mk hb
  have HX := Aside0.mk hXW
  have hu27 := Tryz.underlying27
  clear hb hXW hX hp
  go_enter Tryz.func40, Tryz.ntmps40
  go_wp2_with ((with_reducible refine gate_dst (N := 2) rfl ?_); refine bev (cells27 x) 27 ?_; intro gb hgb w1 hbox hb1
               have HB1 := Aside0.mk (HB.out.trans (hb1.mono HB.out.size)); have x6 := czc1 (blk_below HX.out hb1); have y0 : w1.cell? ⟨gb, 0, none⟩ = some (.string x.f0) := (blk_cell hbox 0).trans rfl
               clear hgb hbox hb1)
  go_ret
  exact ⟨rfl, HB1.out⟩
end Go.Proofs.YtgkemhgihbfmmaaGreatDoor.PA
end
section
namespace Go.Proofs.YtgkemhgihbfmmaaGreatDoor.PA
open Go.RowKit Go.Proofs.YtgkemhgihbfmmaaGreatDoorW.PrintWords Go.Proofs.YtgkemhgihbfmmaaGreatDoorW.PrintLast Go.Proofs.YtgkemhgihbfmmaaGreatDoorW.PrintMore
attribute [local go_sem] max2_int min2_int max_two min_two max_three min_three max_four min_four isSome_set str_gtr
set_option linter.unusedVariables false
set_option linter.unusedSimpArgs false
end Go.Proofs.YtgkemhgihbfmmaaGreatDoor.PA
end
section
namespace Go.Proofs.YtgkemhgihbfmmaaGreatDoor.PA
open Go.RowKit Go.Proofs.YtgkemhgihbfmmaaGreatDoorW.PrintWords Go.Proofs.YtgkemhgihbfmmaaGreatDoorW.PrintLast Go.Proofs.YtgkemhgihbfmmaaGreatDoorW.PrintMore
attribute [local go_sem] max2_int min2_int max_two min_two max_three min_three max_four min_four isSome_set str_gtr
set_option linter.unusedVariables false
set_option linter.unusedSimpArgs false
def calc_scope_eval.f : Nat → List (S27) → Int → Int → Int → Int → ByteArray → Int → ByteArray → List (S31) → Option (Int × Int × Int × ByteArray × Int)
 | 0, _, _, _, _, _, _, _, _, _ => none
 | k + 1, l0, a1_0, a1_1, a1_2, a1_3, a1_4, a1_5, a1_6, l1_7 => if a1_0 = 1 then (some (a1_1, a1_2, a1_3, a1_4, a1_5)) else (if a1_0 = 2 then ((standin_IndexName.f l0 a1_0 a1_1 a1_2 a1_3 a1_4 a1_5 a1_6 l1_7).bind fun t884 => (if 0 ≤ t884 then (if t884 < (l0.length : Int) then (some ((rd_T27 l0 t884).f1.f0, (rd_T27 l0 t884).f1.f1.f0, (rd_T27 l0 t884).f1.f1.f1, (rd_T27 l0 t884).f1.f2, (rd_T27 l0 t884).f1.f3)) else (none)) else (none))) else (if a1_0 = 17 then (if 0 < (l1_7.length : Int) then ((calc_scope_eval.f k l0 ((rd_T31 l1_7 0).f0) ((rd_T31 l1_7 0).f1.f0) ((rd_T31 l1_7 0).f1.f1.f0) ((rd_T31 l1_7 0).f1.f1.f1) ((rd_T31 l1_7 0).f1.f2) ((rd_T31 l1_7 0).f1.f3) ((rd_T31 l1_7 0).f2) ((rd_T31 l1_7 0).f3)).bind fun bt887 => ((logic_Is.f bt887.1 bt887.2.1 bt887.2.2.1 bt887.2.2.2.1 bt887.2.2.2.2).bind fun t892 => (if t892 = true then (if 1 < (l1_7.length : Int) then ((calc_scope_eval.f k l0 ((rd_T31 l1_7 1).f0) ((rd_T31 l1_7 1).f1.f0) ((rd_T31 l1_7 1).f1.f1.f0) ((rd_T31 l1_7 1).f1.f1.f1) ((rd_T31 l1_7 1).f1.f2) ((rd_T31 l1_7 1).f1.f3) ((rd_T31 l1_7 1).f2) ((rd_T31 l1_7 1).f3)).bind fun bt894 => (some (bt894.1, bt894.2.1, bt894.2.2.1, bt894.2.2.2.1, bt894.2.2.2.2))) else (none)) else (if 2 < (l1_7.length : Int) then ((calc_scope_eval.f k l0 ((rd_T31 l1_7 2).f0) ((rd_T31 l1_7 2).f1.f0) ((rd_T31 l1_7 2).f1.f1.f0) ((rd_T31 l1_7 2).f1.f1.f1) ((rd_T31 l1_7 2).f1.f2) ((rd_T31 l1_7 2).f1.f3) ((rd_T31 l1_7 2).f2) ((rd_T31 l1_7 2).f3)).bind fun bt900 => (some (bt900.1, bt900.2.1, bt900.2.2.1, bt900.2.2.2.1, bt900.2.2.2.2))) else (none))))) else (none)) else (if 0 < (l1_7.length : Int) then ((calc_scope_eval.f k l0 ((rd_T31 l1_7 0).f0) ((rd_T31 l1_7 0).f1.f0) ((rd_T31 l1_7 0).f1.f1.f0) ((rd_T31 l1_7 0).f1.f1.f1) ((rd_T31 l1_7 0).f1.f2) ((rd_T31 l1_7 0).f1.f3) ((rd_T31 l1_7 0).f2) ((rd_T31 l1_7 0).f3)).bind fun bt906 => (if a1_0 = 3 then (none) else (if a1_0 = 16 then (none) else (if 1 < (l1_7.length : Int) then ((calc_scope_eval.f k l0 ((rd_T31 l1_7 1).f0) ((rd_T31 l1_7 1).f1.f0) ((rd_T31 l1_7 1).f1.f1.f0) ((rd_T31 l1_7 1).f1.f1.f1) ((rd_T31 l1_7 1).f1.f2) ((rd_T31 l1_7 1).f1.f3) ((rd_T31 l1_7 1).f2) ((rd_T31 l1_7 1).f3)).bind fun bt913 => (if a1_0 = 8 then (none) else (if a1_0 = 9 then (none) else (if a1_0 = 10 then (none) else (if a1_0 = 12 then ((calc_Less.f k bt913.1 bt913.2.1 bt913.2.2.1 bt913.2.2.2.1 bt913.2.2.2.2 bt906.1 bt906.2.1 bt906.2.2.1 bt906.2.2.2.1 bt906.2.2.2.2).bind fun bt919 => (some (bt919.1, bt919.2.1, bt919.2.2.1, bt919.2.2.2.1, bt919.2.2.2.2))) else (if a1_0 = 11 then (none) else (if a1_0 = 13 then (none) else (if a1_0 = 14 then (none) else (if a1_0 = 15 then (none) else ((calc_reckon.f k a1_0 bt906.1 bt906.2.1 bt906.2.2.1 bt906.2.2.2.1 bt906.2.2.2.2 bt913.1 bt913.2.1 bt913.2.2.1 bt913.2.2.2.1 bt913.2.2.2.2).bind fun bt930 => (some (bt930.1, bt930.2.1, bt930.2.2.1, bt930.2.2.2.1, bt930.2.2.2.2)))))))))))) else (none))))) else (none))))
theorem calc_scope_eval.mono_l : ∀ k, (∀ y0 y1 y2 y3 y4 y5 y6 y7 y8, LeO (calc_scope_eval.f k y0 y1 y2 y3 y4 y5 y6 y7 y8) (calc_scope_eval.f (k + 1) y0 y1 y2 y3 y4 y5 y6 y7 y8))
 | 0 => fun _ _ _ _ _ _ _ _ _ r h => by simp [calc_scope_eval.f] at h
 | k + 1 => by
  have ih0 := calc_scope_eval.mono_l k
  ·intro y0 y1 y2 y3 y4 y5 y6 y7 y8
   unfold calc_scope_eval.f
   have q0 := @calc_Less.mono; have q1 := @calc_reckon.mono; exact lmo
theorem calc_scope_eval.mono : ∀ a0 a1 a2 a3 a4 a5 a6 a7 a8 k, LeO (calc_scope_eval.f k a0 a1 a2 a3 a4 a5 a6 a7 a8) (calc_scope_eval.f (k + 1) a0 a1 a2 a3 a4 a5 a6 a7 a8) := by
 intro a0 a1 a2 a3 a4 a5 a6 a7 a8 k
 have ih0 := calc_scope_eval.mono_l k
 exact ih0 a0 a1 a2 a3 a4 a5 a6 a7 a8
set_option maxHeartbeats 8000000 in
set_option maxRecDepth 100000 in
theorem calc_scope_eval.calls (k : Nat) : ∀ (A0 : Option Addr) (c0 : Nat) (l0 : List (S27)) (a1_0 : Int) (a1_1 : Int) (a1_2 : Int) (a1_3 : Int) (a1_4 : ByteArray) (a1_5 : Int) (a1_6 : ByteArray) (A1_7 : Option Addr) (c1_7 : Nat) (l1_7 : List (S31)) (r1 : Int) (r2 : Int) (r3 : Int) (r4 : ByteArray) (r5 : Int) (w : World) (hr0 : Kd.C k27 w A0 l0.length l0) (hc0 : l0.length ≤ c0) (hr1_7 : Kd.C k31 w A1_7 l1_7.length l1_7) (hc1_7 : l1_7.length ≤ c1_7) (hT : Tabs w) (h : calc_scope_eval.f k l0 a1_0 a1_1 a1_2 a1_3 a1_4 a1_5 a1_6 l1_7 = some (r1, r2, r3, r4, r5)),
  Calls Tryz.prog 41 #[.slice A0 l0.length c0, .agg #[.int .i64 a1_0, .int .i64 a1_1, .int .i64 a1_2, .int .i64 a1_3, .string a1_4, .int .i64 a1_5, .string a1_6, .slice A1_7 l1_7.length c1_7]] w fun e w' => e = .returned (.agg #[.int .i64 r1, .int .i64 r2, .int .i64 r3, .string r4, .int .i64 r5]) ∧ Below w.heap.size w w' := by
 induction k using Nat.strongRecOn with
 | _ k ih =>
 intro A0 c0 l0 a1_0 a1_1 a1_2 a1_3 a1_4 a1_5 a1_6 A1_7 c1_7 l1_7 r1 r2 r3 r4 r5 w hr0 hc0 hr1_7 hc1_7 hT h
 cases k with
 | zero => exact absurd h (by simp [calc_scope_eval.f])
 | succ k =>
 simp only [calc_scope_eval.f] at h
 have hu31 := Tryz.underlying31
 have hu25 := Tryz.underlying25
 have HT := Aside0.mk hT
 clear hT
 have HR0 := Aside0.mk hr0
 have HC0 := Aside0.mk hc0
 clear hr0 hc0
 have HR1_7 := Aside0.mk hr1_7
 have HC1_7 := Aside0.mk hc1_7
 clear hr1_7 hc1_7
 have HB := Aside0.mk (Below.refl w.heap.size w)
 have H : (if a1_0 = 1 then (some (a1_1, a1_2, a1_3, a1_4, a1_5)) else (if a1_0 = 2 then ((standin_IndexName.f l0 a1_0 a1_1 a1_2 a1_3 a1_4 a1_5 a1_6 l1_7).bind fun t884 => (if 0 ≤ t884 then (if t884 < (l0.length : Int) then (some ((rd_T27 l0 t884).f1.f0, (rd_T27 l0 t884).f1.f1.f0, (rd_T27 l0 t884).f1.f1.f1, (rd_T27 l0 t884).f1.f2, (rd_T27 l0 t884).f1.f3)) else (none)) else (none))) else (if a1_0 = 17 then (if 0 < (l1_7.length : Int) then ((calc_scope_eval.f k l0 ((rd_T31 l1_7 0).f0) ((rd_T31 l1_7 0).f1.f0) ((rd_T31 l1_7 0).f1.f1.f0) ((rd_T31 l1_7 0).f1.f1.f1) ((rd_T31 l1_7 0).f1.f2) ((rd_T31 l1_7 0).f1.f3) ((rd_T31 l1_7 0).f2) ((rd_T31 l1_7 0).f3)).bind fun bt887 => ((logic_Is.f bt887.1 bt887.2.1 bt887.2.2.1 bt887.2.2.2.1 bt887.2.2.2.2).bind fun t892 => (if t892 = true then (if 1 < (l1_7.length : Int) then ((calc_scope_eval.f k l0 ((rd_T31 l1_7 1).f0) ((rd_T31 l1_7 1).f1.f0) ((rd_T31 l1_7 1).f1.f1.f0) ((rd_T31 l1_7 1).f1.f1.f1) ((rd_T31 l1_7 1).f1.f2) ((rd_T31 l1_7 1).f1.f3) ((rd_T31 l1_7 1).f2) ((rd_T31 l1_7 1).f3)).bind fun bt894 => (some (bt894.1, bt894.2.1, bt894.2.2.1, bt894.2.2.2.1, bt894.2.2.2.2))) else (none)) else (if 2 < (l1_7.length : Int) then ((calc_scope_eval.f k l0 ((rd_T31 l1_7 2).f0) ((rd_T31 l1_7 2).f1.f0) ((rd_T31 l1_7 2).f1.f1.f0) ((rd_T31 l1_7 2).f1.f1.f1) ((rd_T31 l1_7 2).f1.f2) ((rd_T31 l1_7 2).f1.f3) ((rd_T31 l1_7 2).f2) ((rd_T31 l1_7 2).f3)).bind fun bt900 => (some (bt900.1, bt900.2.1, bt900.2.2.1, bt900.2.2.2.1, bt900.2.2.2.2))) else (none))))) else (none)) else (if 0 < (l1_7.length : Int) then ((calc_scope_eval.f k l0 ((rd_T31 l1_7 0).f0) ((rd_T31 l1_7 0).f1.f0) ((rd_T31 l1_7 0).f1.f1.f0) ((rd_T31 l1_7 0).f1.f1.f1) ((rd_T31 l1_7 0).f1.f2) ((rd_T31 l1_7 0).f1.f3) ((rd_T31 l1_7 0).f2) ((rd_T31 l1_7 0).f3)).bind fun bt906 => (if a1_0 = 3 then (none) else (if a1_0 = 16 then (none) else (if 1 < (l1_7.length : Int) then ((calc_scope_eval.f k l0 ((rd_T31 l1_7 1).f0) ((rd_T31 l1_7 1).f1.f0) ((rd_T31 l1_7 1).f1.f1.f0) ((rd_T31 l1_7 1).f1.f1.f1) ((rd_T31 l1_7 1).f1.f2) ((rd_T31 l1_7 1).f1.f3) ((rd_T31 l1_7 1).f2) ((rd_T31 l1_7 1).f3)).bind fun bt913 => (if a1_0 = 8 then (none) else (if a1_0 = 9 then (none) else (if a1_0 = 10 then (none) else (if a1_0 = 12 then ((calc_Less.f k bt913.1 bt913.2.1 bt913.2.2.1 bt913.2.2.2.1 bt913.2.2.2.2 bt906.1 bt906.2.1 bt906.2.2.1 bt906.2.2.2.1 bt906.2.2.2.2).bind fun bt919 => (some (bt919.1, bt919.2.1, bt919.2.2.1, bt919.2.2.2.1, bt919.2.2.2.2))) else (if a1_0 = 11 then (none) else (if a1_0 = 13 then (none) else (if a1_0 = 14 then (none) else (if a1_0 = 15 then (none) else ((calc_reckon.f k a1_0 bt906.1 bt906.2.1 bt906.2.2.1 bt906.2.2.2.1 bt906.2.2.2.2 bt913.1 bt913.2.1 bt913.2.2.1 bt913.2.2.2.1 bt913.2.2.2.2).bind fun bt930 => (some (bt930.1, bt930.2.1, bt930.2.2.1, bt930.2.2.2.1, bt930.2.2.2.2)))))))))))) else (none))))) else (none))))) = some (r1, r2, r3, r4, r5) := h
 clear h
 have HC3 := Aside0.mk H
 clear H
 go_enter Tryz.func41, Tryz.ntmps41
 go_upto_if 10 with (first | ((with_reducible refine gate_dst (N := 3) rfl ?_); refine bev (#[.int .i64 a1_0, .int .i64 a1_1, .int .i64 a1_2, .int .i64 a1_3, .string a1_4, .int .i64 a1_5, .string a1_6, .slice A1_7 l1_7.length c1_7]) 31 ?_; intro gb882 hg w4 hbox hb; have BK882 := Aside0.mk (hbox); have GW882 := gs hg HB; have GE882 := GW882; replace HB := sb HB hb; clear hb hbox hg) | ((with_reducible refine gate_dst (N := 4) rfl ?_); refine bev (#[.int .i64 0, .int .i64 0, .int .i64 0, .string (⟨#[]⟩ : ByteArray), .int .i64 0]) 25 ?_; intro gb883 hg w5 hbox hb; have BK883 := Aside0.mk (hbox); have GW883 := gs hg HB; have GE883 := GW883; replace HB := sb HB hb; have NB882_883 := na hg BK882; have NB883_882 := nb hg BK882; replace BK882 := kb BK882 hb; clear hb hbox hg; have hnb6 := NB882_883.out; have hnc6 := NB883_882.out; obtain ⟨Z7_0, Z7_1, Z7_2, Z7_3, Z7_4, Z7_5, Z7_6, Z7_7, F7_0, F7_1, F7_2, F7_3, F7_4, F7_5, F7_6, F7_7⟩ := cz8 BK882.out))
 (try simp only [Act.put, List.setIfInBounds_toArray, List.set_cons_zero, List.set_cons_succ])
 have H := HC3.out
 clear HC3
 clear Z7_0 Z7_1 Z7_2 Z7_3 Z7_4 Z7_5 Z7_6 Z7_7 F7_0 F7_1 F7_2 F7_3 F7_4 F7_5 F7_6 F7_7
 by_cases c8 : a1_0 = 1
 ·replace H := ipe c8 H
  obtain ⟨H, c8b0, c8b1⟩ := H
  clear c8
  (first | rw [c8b0] | (simp only [i64_w, i32_w]; rw [c8b0]) | skip)
  simp only [Option.some.injEq, Prod.mk.injEq] at H
  obtain ⟨rfl, rfl, rfl, rfl, rfl⟩ := H
  have hnb9 := NB882_883.out
  have hnc9 := NB883_882.out
  obtain ⟨Z10_0, Z10_1, Z10_2, Z10_3, Z10_4, Z10_5, Z10_6, Z10_7, F10_0, F10_1, F10_2, F10_3, F10_4, F10_5, F10_6, F10_7⟩ := cz8 BK882.out
  obtain ⟨Z11_0, Z11_1, Z11_2, Z11_3, Z11_4, F11_0, F11_1, F11_2, F11_3, F11_4⟩ := cz5 BK883.out
  go_wp2
  refine bodyPost_ret (results_cell_row rfl _ _ gb883 25 #[.int .i64 a1_1, .int .i64 a1_2, .int .i64 a1_3, .string a1_4, .int .i64 a1_5] (0, 0) _ rfl (bp BK883.out) Tryz.underlying25 rfl (by kernel_rfl)) rfl ?_
  exact ⟨az, bz HB.out⟩
 ·replace H := ine c8 H
  obtain ⟨H, c8b0, c8b1⟩ := H
  (first | rw [c8b0] | (simp only [i64_w, i32_w]; rw [c8b0]) | skip)
  by_cases c12 : a1_0 = 2
  ·replace H := ipe c12 H
   obtain ⟨H, c12b0, c12b1⟩ := H
   clear c12
   replace H := Option.bind_eq_some_iff.mp H
   obtain ⟨t884, A130, H⟩ := H
   replace H : (if 0 ≤ t884 then (if t884 < (l0.length : Int) then (some ((rd_T27 l0 t884).f1.f0, (rd_T27 l0 t884).f1.f1.f0, (rd_T27 l0 t884).f1.f1.f1, (rd_T27 l0 t884).f1.f2, (rd_T27 l0 t884).f1.f3)) else (none)) else (none)) = some (r1, r2, r3, r4, r5) := H
   have A13 := Aside0.mk A130
   clear A130
   by_cases c14 : 0 ≤ t884
   ·rw [if_pos c14] at H
    have c14b0 : decide (0 ≤ t884) = true := decide_eq_true c14
    clear c14
    by_cases c15 : t884 < (l0.length : Int)
    ·rw [if_pos c15] at H
     have c15b0 : decide (t884 < (l0.length : Int)) = true := decide_eq_true c15
     clear c15
     simp only [Option.some.injEq, Prod.mk.injEq] at H
     obtain ⟨rfl, rfl, rfl, rfl, rfl⟩ := H
     have hnb16 := NB882_883.out
     have hnc16 := NB883_882.out
     obtain ⟨Z17_0, Z17_1, Z17_2, Z17_3, Z17_4, Z17_5, Z17_6, Z17_7, F17_0, F17_1, F17_2, F17_3, F17_4, F17_5, F17_6, F17_7⟩ := cz8 BK882.out
     go_wp2_with (first | ((with_reducible refine gate_callee (f := 76) rfl ?_); refine gl_ (some 18) Tryz.func76 (by kernel_rfl) #[.slice A0 l0.length c0, .func (.func 77) #[] #[.pointer (some ⟨gb882, 0, none⟩)]] rfl ?_; (with_reducible refine (standin_IndexName.calls _ _ l0 a1_0 a1_1 a1_2 a1_3 a1_4 a1_5 a1_6 _ _ l1_7 t884 _ ?side1 ?side2 ?side3 ?side4 gb882 (bk BK882.out) A13.out).mono ?_); (case side1 => repeat (first | exact (Kd.C_below HR0.out HB.out) | (with_reducible refine Kd.C_alloc ?_ _) | (with_reducible refine Kd.C_drewN ?_ _) | (with_reducible refine Kd.C_drew ?_))); (case side2 => exact HC0.out); (case side3 => repeat (first | exact (Kd.C_below HR1_7.out HB.out) | (with_reducible refine Kd.C_alloc ?_ _) | (with_reducible refine Kd.C_drewN ?_ _) | (with_reducible refine Kd.C_drew ?_))); (case side4 => exact HC1_7.out); rintro e w18 ⟨rfl, hb⟩; refine ⟨_, rfl, ?_⟩; replace BK882 := kb BK882 hb; replace BK883 := kb BK883 hb; replace HB := sb HB hb; clear hb; have p885 : 0 ≤ (t884 : Int) := of_decide_eq_true tz; have q885 : t884 < (l0.length : Int) := of_decide_eq_true tz; obtain ⟨ad885, e885, hx885_0, hx885_1, hx885_2, hx885_3, hx885_4, hx885_5⟩ := at_T27 HR0.out t884 p885 q885; cases e885; replace hx885_0 := hbw HB.out hx885_0; replace hx885_1 := hbw HB.out hx885_1; replace hx885_2 := hbw HB.out hx885_2; replace hx885_3 := hbw HB.out hx885_3; replace hx885_4 := hbw HB.out hx885_4; replace hx885_5 := hbw HB.out hx885_5; replace p885 := eq_true p885; replace q885 := eq_true q885; obtain ⟨Z19_0, Z19_1, Z19_2, Z19_3, Z19_4, F19_0, F19_1, F19_2, F19_3, F19_4⟩ := cz5 BK883.out))
     refine bodyPost_ret (results_cell_row rfl _ _ gb883 25 #[.int .i64 ((rd_T27 l0 t884).f1.f0), .int .i64 ((rd_T27 l0 t884).f1.f1.f0), .int .i64 ((rd_T27 l0 t884).f1.f1.f1), .string ((rd_T27 l0 t884).f1.f2), .int .i64 ((rd_T27 l0 t884).f1.f3)] (0, 0) _ rfl (bp BK883.out) Tryz.underlying25 rfl (by kernel_rfl)) rfl ?_
     exact ⟨az, bz HB.out⟩
    ·rw [if_neg c15] at H
     exact absurd H (by simp)
   ·rw [if_neg c14] at H
    exact absurd H (by simp)
  ·replace H := ine c12 H
   obtain ⟨H, c12b0, c12b1⟩ := H
   by_cases c20 : a1_0 = 17
   ·replace H := ipe c20 H
    obtain ⟨H, c20b0, c20b1⟩ := H
    clear c20
    by_cases c21 : 0 < (l1_7.length : Int)
    ·rw [if_pos c21] at H
     have c21b0 : decide (0 < (l1_7.length : Int)) = true := decide_eq_true c21
     have c21b1 : decide (0 < l1_7.length) = true := decide_eq_true (by omega)
     clear c21
     replace H := Option.bind_eq_some_iff.mp H
     obtain ⟨⟨t887, t888, t889, t890, t891⟩, A220, H⟩ := H
     replace H : ((logic_Is.f t887 t888 t889 t890 t891).bind fun t892 => (if t892 = true then (if 1 < (l1_7.length : Int) then ((calc_scope_eval.f k l0 ((rd_T31 l1_7 1).f0) ((rd_T31 l1_7 1).f1.f0) ((rd_T31 l1_7 1).f1.f1.f0) ((rd_T31 l1_7 1).f1.f1.f1) ((rd_T31 l1_7 1).f1.f2) ((rd_T31 l1_7 1).f1.f3) ((rd_T31 l1_7 1).f2) ((rd_T31 l1_7 1).f3)).bind fun bt894 => (some (bt894.1, bt894.2.1, bt894.2.2.1, bt894.2.2.2.1, bt894.2.2.2.2))) else (none)) else (if 2 < (l1_7.length : Int) then ((calc_scope_eval.f k l0 ((rd_T31 l1_7 2).f0) ((rd_T31 l1_7 2).f1.f0) ((rd_T31 l1_7 2).f1.f1.f0) ((rd_T31 l1_7 2).f1.f1.f1) ((rd_T31 l1_7 2).f1.f2) ((rd_T31 l1_7 2).f1.f3) ((rd_T31 l1_7 2).f2) ((rd_T31 l1_7 2).f3)).bind fun bt900 => (some (bt900.1, bt900.2.1, bt900.2.2.1, bt900.2.2.2.1, bt900.2.2.2.2))) else (none)))) = some (r1, r2, r3, r4, r5) := H
     have A22 := Aside0.mk A220
     clear A220
     replace H := Option.bind_eq_some_iff.mp H
     obtain ⟨t892, A230, H⟩ := H
     replace H : (if t892 = true then (if 1 < (l1_7.length : Int) then ((calc_scope_eval.f k l0 ((rd_T31 l1_7 1).f0) ((rd_T31 l1_7 1).f1.f0) ((rd_T31 l1_7 1).f1.f1.f0) ((rd_T31 l1_7 1).f1.f1.f1) ((rd_T31 l1_7 1).f1.f2) ((rd_T31 l1_7 1).f1.f3) ((rd_T31 l1_7 1).f2) ((rd_T31 l1_7 1).f3)).bind fun bt894 => (some (bt894.1, bt894.2.1, bt894.2.2.1, bt894.2.2.2.1, bt894.2.2.2.2))) else (none)) else (if 2 < (l1_7.length : Int) then ((calc_scope_eval.f k l0 ((rd_T31 l1_7 2).f0) ((rd_T31 l1_7 2).f1.f0) ((rd_T31 l1_7 2).f1.f1.f0) ((rd_T31 l1_7 2).f1.f1.f1) ((rd_T31 l1_7 2).f1.f2) ((rd_T31 l1_7 2).f1.f3) ((rd_T31 l1_7 2).f2) ((rd_T31 l1_7 2).f3)).bind fun bt900 => (some (bt900.1, bt900.2.1, bt900.2.2.1, bt900.2.2.2.1, bt900.2.2.2.2))) else (none))) = some (r1, r2, r3, r4, r5) := H
     have A23 := Aside0.mk A230
     clear A230
     have HC24 := Aside0.mk H
     clear H
     have hnb25 := NB882_883.out
     have hnc25 := NB883_882.out
     obtain ⟨Z26_0, Z26_1, Z26_2, Z26_3, Z26_4, Z26_5, Z26_6, Z26_7, F26_0, F26_1, F26_2, F26_3, F26_4, F26_5, F26_6, F26_7⟩ := cz8 BK882.out
     have p886 : 0 ≤ (0 : Int) := (by omega)
     have q886 : 0 < (l1_7.length : Int) := of_decide_eq_true tz
     obtain ⟨ad886, A886_7, c886_7, e886, hx886_0, hx886_1, hx886_2, hx886_3, hx886_4, hx886_5, hx886_6, hx886_7, hl886_7, hi886_7⟩ := at_T31 HR1_7.out 0 p886 q886
     cases e886
     have qi886 : (0 < l1_7.length) = True := eq_true (by omega)
     (try rw [show ((0 : Int)).toNat = 0 from rfl] at hx886_0)
     (try rw [show 0 * 8 = 0 from rfl] at hx886_0)
     (try rw [Addr.add_zero'] at hx886_0)
     (try rw [show ((0 : Int)).toNat = 0 from rfl] at hx886_1)
     (try rw [show 0 * 8 = 0 from rfl] at hx886_1)
     (try rw [Addr.add_zero'] at hx886_1)
     (try rw [show ((0 : Int)).toNat = 0 from rfl] at hx886_2)
     (try rw [show 0 * 8 = 0 from rfl] at hx886_2)
     (try rw [Addr.add_zero'] at hx886_2)
     (try rw [show ((0 : Int)).toNat = 0 from rfl] at hx886_3)
     (try rw [show 0 * 8 = 0 from rfl] at hx886_3)
     (try rw [Addr.add_zero'] at hx886_3)
     (try rw [show ((0 : Int)).toNat = 0 from rfl] at hx886_4)
     (try rw [show 0 * 8 = 0 from rfl] at hx886_4)
     (try rw [Addr.add_zero'] at hx886_4)
     (try rw [show ((0 : Int)).toNat = 0 from rfl] at hx886_5)
     (try rw [show 0 * 8 = 0 from rfl] at hx886_5)
     (try rw [Addr.add_zero'] at hx886_5)
     (try rw [show ((0 : Int)).toNat = 0 from rfl] at hx886_6)
     (try rw [show 0 * 8 = 0 from rfl] at hx886_6)
     (try rw [Addr.add_zero'] at hx886_6)
     (try rw [show ((0 : Int)).toNat = 0 from rfl] at hx886_7)
     (try rw [show 0 * 8 = 0 from rfl] at hx886_7)
     (try rw [Addr.add_zero'] at hx886_7)
     replace hx886_0 := hbw HB.out hx886_0
     replace hx886_1 := hbw HB.out hx886_1
     replace hx886_2 := hbw HB.out hx886_2
     replace hx886_3 := hbw HB.out hx886_3
     replace hx886_4 := hbw HB.out hx886_4
     replace hx886_5 := hbw HB.out hx886_5
     replace hx886_6 := hbw HB.out hx886_6
     replace hx886_7 := hbw HB.out hx886_7
     have HR886_7 := Aside0.mk hi886_7
     have HC886_7 := Aside0.mk hl886_7
     clear hi886_7 hl886_7
     replace p886 := eq_true p886
     replace q886 := eq_true q886
     go_upto_if 32 with (first | ((with_reducible refine gate_callee (f := 41) rfl ?_); refine gl_ (some 31) Tryz.func41 (by kernel_rfl) #[.slice A0 l0.length c0, .agg #[.int .i64 ((rd_T31 l1_7 0).f0), .int .i64 ((rd_T31 l1_7 0).f1.f0), .int .i64 ((rd_T31 l1_7 0).f1.f1.f0), .int .i64 ((rd_T31 l1_7 0).f1.f1.f1), .string ((rd_T31 l1_7 0).f1.f2), .int .i64 ((rd_T31 l1_7 0).f1.f3), .string ((rd_T31 l1_7 0).f2), .slice A886_7 ((rd_T31 l1_7 0).f3).length c886_7]] rfl ?_; (with_reducible refine (ih k (by omega) _ _ l0 ((rd_T31 l1_7 0).f0) ((rd_T31 l1_7 0).f1.f0) ((rd_T31 l1_7 0).f1.f1.f0) ((rd_T31 l1_7 0).f1.f1.f1) ((rd_T31 l1_7 0).f1.f2) ((rd_T31 l1_7 0).f1.f3) ((rd_T31 l1_7 0).f2) _ _ ((rd_T31 l1_7 0).f3) t887 t888 t889 t890 t891 _ ?side1 ?side2 ?side3 ?side4 ?side5 A22.out).mono ?_); (case side1 => repeat (first | exact (Kd.C_below HR0.out HB.out) | (with_reducible refine Kd.C_alloc ?_ _) | (with_reducible refine Kd.C_drewN ?_ _) | (with_reducible refine Kd.C_drew ?_))); (case side2 => exact HC0.out); (case side3 => repeat (first | exact (Kd.C_below HR886_7.out HB.out) | (with_reducible refine Kd.C_alloc ?_ _) | (with_reducible refine Kd.C_drewN ?_ _) | (with_reducible refine Kd.C_drew ?_))); (case side4 => exact HC886_7.out); (case side5 => exact tabs_of HT.out (bz HB.out)); rintro e w27 ⟨rfl, hb⟩; refine ⟨_, rfl, ?_⟩; replace BK882 := kb BK882 hb; replace BK883 := kb BK883 hb; replace HB := sb HB hb; clear hb) | ((with_reducible refine gate_callee (f := 78) rfl ?_); refine gl_ (some 32) Tryz.func78 (by kernel_rfl) #[.agg #[.int .i64 t887, .int .i64 t888, .int .i64 t889, .string t890, .int .i64 t891]] rfl ?_; (with_reducible refine (logic_Is.calls t887 t888 t889 t890 t891 t892 _ A23.out).mono ?_); rintro e w28 ⟨rfl, hb⟩; refine ⟨_, rfl, ?_⟩; replace BK882 := kb BK882 hb; replace BK883 := kb BK883 hb; replace HB := sb HB hb; clear hb))
     (try simp only [Act.put, List.setIfInBounds_toArray, List.set_cons_zero, List.set_cons_succ])
     have H := HC24.out
     clear HC24
     clear Z26_0 Z26_1 Z26_2 Z26_3 Z26_4 Z26_5 Z26_6 Z26_7 F26_0 F26_1 F26_2 F26_3 F26_4 F26_5 F26_6 F26_7 hx886_0 hx886_1 hx886_2 hx886_3 hx886_4 hx886_5 hx886_6 hx886_7
     by_cases c29 : t892 = true
     ·subst c29
      (try simp only [Bool.not_true, Bool.not_false])
      have H1 : (if 1 < (l1_7.length : Int) then ((calc_scope_eval.f k l0 ((rd_T31 l1_7 1).f0) ((rd_T31 l1_7 1).f1.f0) ((rd_T31 l1_7 1).f1.f1.f0) ((rd_T31 l1_7 1).f1.f1.f1) ((rd_T31 l1_7 1).f1.f2) ((rd_T31 l1_7 1).f1.f3) ((rd_T31 l1_7 1).f2) ((rd_T31 l1_7 1).f3)).bind fun bt894 => (some (bt894.1, bt894.2.1, bt894.2.2.1, bt894.2.2.2.1, bt894.2.2.2.2))) else (none)) = some (r1, r2, r3, r4, r5) := by rw [if_pos rfl] at H; exact H
      clear H
      have H := H1
      clear H1
      by_cases c30 : 1 < (l1_7.length : Int)
      ·rw [if_pos c30] at H
       have c30b0 : decide (1 < (l1_7.length : Int)) = true := decide_eq_true c30
       have c30b1 : decide (1 < l1_7.length) = true := decide_eq_true (by omega)
       clear c30
       (first | rw [c30b0] | (simp only [i64_w, i32_w]; rw [c30b0]) | skip)
       replace H := Option.bind_eq_some_iff.mp H
       obtain ⟨⟨t894, t895, t896, t897, t898⟩, A310, H⟩ := H
       replace H : (some (t894, t895, t896, t897, t898)) = some (r1, r2, r3, r4, r5) := H
       have A31 := Aside0.mk A310
       clear A310
       simp only [Option.some.injEq, Prod.mk.injEq] at H
       obtain ⟨rfl, rfl, rfl, rfl, rfl⟩ := H
       have hnb32 := NB882_883.out
       have hnc32 := NB883_882.out
       obtain ⟨Z33_0, Z33_1, Z33_2, Z33_3, Z33_4, Z33_5, Z33_6, Z33_7, F33_0, F33_1, F33_2, F33_3, F33_4, F33_5, F33_6, F33_7⟩ := cz8 BK882.out
       have p893 : 0 ≤ (1 : Int) := (by omega)
       have q893 : 1 < (l1_7.length : Int) := of_decide_eq_true tz
       obtain ⟨ad893, A893_7, c893_7, e893, hx893_0, hx893_1, hx893_2, hx893_3, hx893_4, hx893_5, hx893_6, hx893_7, hl893_7, hi893_7⟩ := at_T31 HR1_7.out 1 p893 q893
       obtain rfl : ad886 = ad893 := (by injection e893)
       (try simp only [show (1 : Int).toNat = 1 from rfl, Nat.reduceMul, Nat.reduceEqDiff, Go.Addr.add, ↓reduceIte] at hx893_0)
       (try simp only [show (1 : Int).toNat = 1 from rfl, Nat.reduceMul, Nat.reduceEqDiff, Go.Addr.add, ↓reduceIte] at hx893_1)
       (try simp only [show (1 : Int).toNat = 1 from rfl, Nat.reduceMul, Nat.reduceEqDiff, Go.Addr.add, ↓reduceIte] at hx893_2)
       (try simp only [show (1 : Int).toNat = 1 from rfl, Nat.reduceMul, Nat.reduceEqDiff, Go.Addr.add, ↓reduceIte] at hx893_3)
       (try simp only [show (1 : Int).toNat = 1 from rfl, Nat.reduceMul, Nat.reduceEqDiff, Go.Addr.add, ↓reduceIte] at hx893_4)
       (try simp only [show (1 : Int).toNat = 1 from rfl, Nat.reduceMul, Nat.reduceEqDiff, Go.Addr.add, ↓reduceIte] at hx893_5)
       (try simp only [show (1 : Int).toNat = 1 from rfl, Nat.reduceMul, Nat.reduceEqDiff, Go.Addr.add, ↓reduceIte] at hx893_6)
       (try simp only [show (1 : Int).toNat = 1 from rfl, Nat.reduceMul, Nat.reduceEqDiff, Go.Addr.add, ↓reduceIte] at hx893_7)
       have qi893 : (1 < l1_7.length) = True := eq_true (by omega)
       (try rw [show ((1 : Int)).toNat = 1 from rfl] at hx893_0)
       (try rw [show 1 * 8 = 8 from rfl] at hx893_0)
       (try rw [show ((1 : Int)).toNat = 1 from rfl] at hx893_1)
       (try rw [show 1 * 8 = 8 from rfl] at hx893_1)
       (try rw [show ((1 : Int)).toNat = 1 from rfl] at hx893_2)
       (try rw [show 1 * 8 = 8 from rfl] at hx893_2)
       (try rw [show ((1 : Int)).toNat = 1 from rfl] at hx893_3)
       (try rw [show 1 * 8 = 8 from rfl] at hx893_3)
       (try rw [show ((1 : Int)).toNat = 1 from rfl] at hx893_4)
       (try rw [show 1 * 8 = 8 from rfl] at hx893_4)
       (try rw [show ((1 : Int)).toNat = 1 from rfl] at hx893_5)
       (try rw [show 1 * 8 = 8 from rfl] at hx893_5)
       (try rw [show ((1 : Int)).toNat = 1 from rfl] at hx893_6)
       (try rw [show 1 * 8 = 8 from rfl] at hx893_6)
       (try rw [show ((1 : Int)).toNat = 1 from rfl] at hx893_7)
       (try rw [show 1 * 8 = 8 from rfl] at hx893_7)
       replace hx893_0 := hbw HB.out hx893_0
       replace hx893_1 := hbw HB.out hx893_1
       replace hx893_2 := hbw HB.out hx893_2
       replace hx893_3 := hbw HB.out hx893_3
       replace hx893_4 := hbw HB.out hx893_4
       replace hx893_5 := hbw HB.out hx893_5
       replace hx893_6 := hbw HB.out hx893_6
       replace hx893_7 := hbw HB.out hx893_7
       have HR893_7 := Aside0.mk hi893_7
       have HC893_7 := Aside0.mk hl893_7
       clear hi893_7 hl893_7
       replace p893 := eq_true p893
       replace q893 := eq_true q893
       go_wp2_with (first | ((with_reducible refine gate_callee (f := 41) rfl ?_); refine gl_ (some 38) Tryz.func41 (by kernel_rfl) #[.slice A0 l0.length c0, .agg #[.int .i64 ((rd_T31 l1_7 1).f0), .int .i64 ((rd_T31 l1_7 1).f1.f0), .int .i64 ((rd_T31 l1_7 1).f1.f1.f0), .int .i64 ((rd_T31 l1_7 1).f1.f1.f1), .string ((rd_T31 l1_7 1).f1.f2), .int .i64 ((rd_T31 l1_7 1).f1.f3), .string ((rd_T31 l1_7 1).f2), .slice A893_7 ((rd_T31 l1_7 1).f3).length c893_7]] rfl ?_; (with_reducible refine (ih k (by omega) _ _ l0 ((rd_T31 l1_7 1).f0) ((rd_T31 l1_7 1).f1.f0) ((rd_T31 l1_7 1).f1.f1.f0) ((rd_T31 l1_7 1).f1.f1.f1) ((rd_T31 l1_7 1).f1.f2) ((rd_T31 l1_7 1).f1.f3) ((rd_T31 l1_7 1).f2) _ _ ((rd_T31 l1_7 1).f3) t894 t895 t896 t897 t898 _ ?side1 ?side2 ?side3 ?side4 ?side5 A31.out).mono ?_); (case side1 => repeat (first | exact (Kd.C_below HR0.out HB.out) | (with_reducible refine Kd.C_alloc ?_ _) | (with_reducible refine Kd.C_drewN ?_ _) | (with_reducible refine Kd.C_drew ?_))); (case side2 => exact HC0.out); (case side3 => repeat (first | exact (Kd.C_below HR893_7.out HB.out) | (with_reducible refine Kd.C_alloc ?_ _) | (with_reducible refine Kd.C_drewN ?_ _) | (with_reducible refine Kd.C_drew ?_))); (case side4 => exact HC893_7.out); (case side5 => exact tabs_of HT.out (bz HB.out)); rintro e w34 ⟨rfl, hb⟩; refine ⟨_, rfl, ?_⟩; replace BK882 := kb BK882 hb; replace BK883 := kb BK883 hb; replace HB := sb HB hb; clear hb; obtain ⟨Z35_0, Z35_1, Z35_2, Z35_3, Z35_4, F35_0, F35_1, F35_2, F35_3, F35_4⟩ := cz5 BK883.out))
       refine bodyPost_ret (results_cell_row rfl _ _ gb883 25 #[.int .i64 t894, .int .i64 t895, .int .i64 t896, .string t897, .int .i64 t898] (0, 0) _ rfl (bp BK883.out) Tryz.underlying25 rfl (by kernel_rfl)) rfl ?_
       exact ⟨az, bz HB.out⟩
      ·rw [if_neg c30] at H
       exact absurd H (by simp)
     ·replace c29 := Bool.eq_false_iff.mpr c29
      subst c29
      (try simp only [Bool.not_true, Bool.not_false])
      have H1 : (if 2 < (l1_7.length : Int) then ((calc_scope_eval.f k l0 ((rd_T31 l1_7 2).f0) ((rd_T31 l1_7 2).f1.f0) ((rd_T31 l1_7 2).f1.f1.f0) ((rd_T31 l1_7 2).f1.f1.f1) ((rd_T31 l1_7 2).f1.f2) ((rd_T31 l1_7 2).f1.f3) ((rd_T31 l1_7 2).f2) ((rd_T31 l1_7 2).f3)).bind fun bt900 => (some (bt900.1, bt900.2.1, bt900.2.2.1, bt900.2.2.2.1, bt900.2.2.2.2))) else (none)) = some (r1, r2, r3, r4, r5) := by rw [if_neg (show ¬ (false = true) by decide)] at H; exact H
      clear H
      have H := H1
      clear H1
      by_cases c36 : 2 < (l1_7.length : Int)
      ·rw [if_pos c36] at H
       have c36b0 : decide (2 < (l1_7.length : Int)) = true := decide_eq_true c36
       have c36b1 : decide (2 < l1_7.length) = true := decide_eq_true (by omega)
       clear c36
       replace H := Option.bind_eq_some_iff.mp H
       obtain ⟨⟨t900, t901, t902, t903, t904⟩, A370, H⟩ := H
       replace H : (some (t900, t901, t902, t903, t904)) = some (r1, r2, r3, r4, r5) := H
       have A37 := Aside0.mk A370
       clear A370
       simp only [Option.some.injEq, Prod.mk.injEq] at H
       obtain ⟨rfl, rfl, rfl, rfl, rfl⟩ := H
       have hnb38 := NB882_883.out
       have hnc38 := NB883_882.out
       obtain ⟨Z39_0, Z39_1, Z39_2, Z39_3, Z39_4, Z39_5, Z39_6, Z39_7, F39_0, F39_1, F39_2, F39_3, F39_4, F39_5, F39_6, F39_7⟩ := cz8 BK882.out
       have p899 : 0 ≤ (2 : Int) := (by omega)
       have q899 : 2 < (l1_7.length : Int) := of_decide_eq_true tz
       obtain ⟨ad899, A899_7, c899_7, e899, hx899_0, hx899_1, hx899_2, hx899_3, hx899_4, hx899_5, hx899_6, hx899_7, hl899_7, hi899_7⟩ := at_T31 HR1_7.out 2 p899 q899
       obtain rfl : ad886 = ad899 := (by injection e899)
       (try simp only [show (2 : Int).toNat = 2 from rfl, Nat.reduceMul, Nat.reduceEqDiff, Go.Addr.add, ↓reduceIte] at hx899_0)
       (try simp only [show (2 : Int).toNat = 2 from rfl, Nat.reduceMul, Nat.reduceEqDiff, Go.Addr.add, ↓reduceIte] at hx899_1)
       (try simp only [show (2 : Int).toNat = 2 from rfl, Nat.reduceMul, Nat.reduceEqDiff, Go.Addr.add, ↓reduceIte] at hx899_2)
       (try simp only [show (2 : Int).toNat = 2 from rfl, Nat.reduceMul, Nat.reduceEqDiff, Go.Addr.add, ↓reduceIte] at hx899_3)
       (try simp only [show (2 : Int).toNat = 2 from rfl, Nat.reduceMul, Nat.reduceEqDiff, Go.Addr.add, ↓reduceIte] at hx899_4)
       (try simp only [show (2 : Int).toNat = 2 from rfl, Nat.reduceMul, Nat.reduceEqDiff, Go.Addr.add, ↓reduceIte] at hx899_5)
       (try simp only [show (2 : Int).toNat = 2 from rfl, Nat.reduceMul, Nat.reduceEqDiff, Go.Addr.add, ↓reduceIte] at hx899_6)
       (try simp only [show (2 : Int).toNat = 2 from rfl, Nat.reduceMul, Nat.reduceEqDiff, Go.Addr.add, ↓reduceIte] at hx899_7)
       have qi899 : (2 < l1_7.length) = True := eq_true (by omega)
       (try rw [show ((2 : Int)).toNat = 2 from rfl] at hx899_0)
       (try rw [show 2 * 8 = 16 from rfl] at hx899_0)
       (try rw [show ((2 : Int)).toNat = 2 from rfl] at hx899_1)
       (try rw [show 2 * 8 = 16 from rfl] at hx899_1)
       (try rw [show ((2 : Int)).toNat = 2 from rfl] at hx899_2)
       (try rw [show 2 * 8 = 16 from rfl] at hx899_2)
       (try rw [show ((2 : Int)).toNat = 2 from rfl] at hx899_3)
       (try rw [show 2 * 8 = 16 from rfl] at hx899_3)
       (try rw [show ((2 : Int)).toNat = 2 from rfl] at hx899_4)
       (try rw [show 2 * 8 = 16 from rfl] at hx899_4)
       (try rw [show ((2 : Int)).toNat = 2 from rfl] at hx899_5)
       (try rw [show 2 * 8 = 16 from rfl] at hx899_5)
       (try rw [show ((2 : Int)).toNat = 2 from rfl] at hx899_6)
       (try rw [show 2 * 8 = 16 from rfl] at hx899_6)
       (try rw [show ((2 : Int)).toNat = 2 from rfl] at hx899_7)
       (try rw [show 2 * 8 = 16 from rfl] at hx899_7)
       replace hx899_0 := hbw HB.out hx899_0
       replace hx899_1 := hbw HB.out hx899_1
       replace hx899_2 := hbw HB.out hx899_2
       replace hx899_3 := hbw HB.out hx899_3
       replace hx899_4 := hbw HB.out hx899_4
       replace hx899_5 := hbw HB.out hx899_5
       replace hx899_6 := hbw HB.out hx899_6
       replace hx899_7 := hbw HB.out hx899_7
       have HR899_7 := Aside0.mk hi899_7
       have HC899_7 := Aside0.mk hl899_7
       clear hi899_7 hl899_7
       replace p899 := eq_true p899
       replace q899 := eq_true q899
       go_wp2_with (first | ((with_reducible refine gate_callee (f := 41) rfl ?_); refine gl_ (some 44) Tryz.func41 (by kernel_rfl) #[.slice A0 l0.length c0, .agg #[.int .i64 ((rd_T31 l1_7 2).f0), .int .i64 ((rd_T31 l1_7 2).f1.f0), .int .i64 ((rd_T31 l1_7 2).f1.f1.f0), .int .i64 ((rd_T31 l1_7 2).f1.f1.f1), .string ((rd_T31 l1_7 2).f1.f2), .int .i64 ((rd_T31 l1_7 2).f1.f3), .string ((rd_T31 l1_7 2).f2), .slice A899_7 ((rd_T31 l1_7 2).f3).length c899_7]] rfl ?_; (with_reducible refine (ih k (by omega) _ _ l0 ((rd_T31 l1_7 2).f0) ((rd_T31 l1_7 2).f1.f0) ((rd_T31 l1_7 2).f1.f1.f0) ((rd_T31 l1_7 2).f1.f1.f1) ((rd_T31 l1_7 2).f1.f2) ((rd_T31 l1_7 2).f1.f3) ((rd_T31 l1_7 2).f2) _ _ ((rd_T31 l1_7 2).f3) t900 t901 t902 t903 t904 _ ?side1 ?side2 ?side3 ?side4 ?side5 A37.out).mono ?_); (case side1 => repeat (first | exact (Kd.C_below HR0.out HB.out) | (with_reducible refine Kd.C_alloc ?_ _) | (with_reducible refine Kd.C_drewN ?_ _) | (with_reducible refine Kd.C_drew ?_))); (case side2 => exact HC0.out); (case side3 => repeat (first | exact (Kd.C_below HR899_7.out HB.out) | (with_reducible refine Kd.C_alloc ?_ _) | (with_reducible refine Kd.C_drewN ?_ _) | (with_reducible refine Kd.C_drew ?_))); (case side4 => exact HC899_7.out); (case side5 => exact tabs_of HT.out (bz HB.out)); rintro e w40 ⟨rfl, hb⟩; refine ⟨_, rfl, ?_⟩; replace BK882 := kb BK882 hb; replace BK883 := kb BK883 hb; replace HB := sb HB hb; clear hb; obtain ⟨Z41_0, Z41_1, Z41_2, Z41_3, Z41_4, F41_0, F41_1, F41_2, F41_3, F41_4⟩ := cz5 BK883.out))
       refine bodyPost_ret (results_cell_row rfl _ _ gb883 25 #[.int .i64 t900, .int .i64 t901, .int .i64 t902, .string t903, .int .i64 t904] (0, 0) _ rfl (bp BK883.out) Tryz.underlying25 rfl (by kernel_rfl)) rfl ?_
       exact ⟨az, bz HB.out⟩
      ·rw [if_neg c36] at H
       exact absurd H (by simp)
    ·rw [if_neg c21] at H
     exact absurd H (by simp)
   ·replace H := ine c20 H
    obtain ⟨H, c20b0, c20b1⟩ := H
    by_cases c42 : 0 < (l1_7.length : Int)
    ·rw [if_pos c42] at H
     have c42b0 : decide (0 < (l1_7.length : Int)) = true := decide_eq_true c42
     have c42b1 : decide (0 < l1_7.length) = true := decide_eq_true (by omega)
     clear c42
     replace H := Option.bind_eq_some_iff.mp H
     obtain ⟨⟨t906, t907, t908, t909, t910⟩, A430, H⟩ := H
     replace H : (if a1_0 = 3 then (none) else (if a1_0 = 16 then (none) else (if 1 < (l1_7.length : Int) then ((calc_scope_eval.f k l0 ((rd_T31 l1_7 1).f0) ((rd_T31 l1_7 1).f1.f0) ((rd_T31 l1_7 1).f1.f1.f0) ((rd_T31 l1_7 1).f1.f1.f1) ((rd_T31 l1_7 1).f1.f2) ((rd_T31 l1_7 1).f1.f3) ((rd_T31 l1_7 1).f2) ((rd_T31 l1_7 1).f3)).bind fun bt913 => (if a1_0 = 8 then (none) else (if a1_0 = 9 then (none) else (if a1_0 = 10 then (none) else (if a1_0 = 12 then ((calc_Less.f k bt913.1 bt913.2.1 bt913.2.2.1 bt913.2.2.2.1 bt913.2.2.2.2 t906 t907 t908 t909 t910).bind fun bt919 => (some (bt919.1, bt919.2.1, bt919.2.2.1, bt919.2.2.2.1, bt919.2.2.2.2))) else (if a1_0 = 11 then (none) else (if a1_0 = 13 then (none) else (if a1_0 = 14 then (none) else (if a1_0 = 15 then (none) else ((calc_reckon.f k a1_0 t906 t907 t908 t909 t910 bt913.1 bt913.2.1 bt913.2.2.1 bt913.2.2.2.1 bt913.2.2.2.2).bind fun bt930 => (some (bt930.1, bt930.2.1, bt930.2.2.1, bt930.2.2.2.1, bt930.2.2.2.2)))))))))))) else (none)))) = some (r1, r2, r3, r4, r5) := H
     have A43 := Aside0.mk A430
     clear A430
     by_cases c44 : a1_0 = 3
     ·rw [if_pos c44] at H
      exact absurd H (by simp)
     ·replace H := ine c44 H
      obtain ⟨H, c44b0, c44b1⟩ := H
      have HC45 := Aside0.mk H
      clear H
      have hnb46 := NB882_883.out
      have hnc46 := NB883_882.out
      obtain ⟨Z47_0, Z47_1, Z47_2, Z47_3, Z47_4, Z47_5, Z47_6, Z47_7, F47_0, F47_1, F47_2, F47_3, F47_4, F47_5, F47_6, F47_7⟩ := cz8 BK882.out
      have p905 : 0 ≤ (0 : Int) := (by omega)
      have q905 : 0 < (l1_7.length : Int) := of_decide_eq_true tz
      obtain ⟨ad905, A905_7, c905_7, e905, hx905_0, hx905_1, hx905_2, hx905_3, hx905_4, hx905_5, hx905_6, hx905_7, hl905_7, hi905_7⟩ := at_T31 HR1_7.out 0 p905 q905
      cases e905
      have qi905 : (0 < l1_7.length) = True := eq_true (by omega)
      (try rw [show ((0 : Int)).toNat = 0 from rfl] at hx905_0)
      (try rw [show 0 * 8 = 0 from rfl] at hx905_0)
      (try rw [Addr.add_zero'] at hx905_0)
      (try rw [show ((0 : Int)).toNat = 0 from rfl] at hx905_1)
      (try rw [show 0 * 8 = 0 from rfl] at hx905_1)
      (try rw [Addr.add_zero'] at hx905_1)
      (try rw [show ((0 : Int)).toNat = 0 from rfl] at hx905_2)
      (try rw [show 0 * 8 = 0 from rfl] at hx905_2)
      (try rw [Addr.add_zero'] at hx905_2)
      (try rw [show ((0 : Int)).toNat = 0 from rfl] at hx905_3)
      (try rw [show 0 * 8 = 0 from rfl] at hx905_3)
      (try rw [Addr.add_zero'] at hx905_3)
      (try rw [show ((0 : Int)).toNat = 0 from rfl] at hx905_4)
      (try rw [show 0 * 8 = 0 from rfl] at hx905_4)
      (try rw [Addr.add_zero'] at hx905_4)
      (try rw [show ((0 : Int)).toNat = 0 from rfl] at hx905_5)
      (try rw [show 0 * 8 = 0 from rfl] at hx905_5)
      (try rw [Addr.add_zero'] at hx905_5)
      (try rw [show ((0 : Int)).toNat = 0 from rfl] at hx905_6)
      (try rw [show 0 * 8 = 0 from rfl] at hx905_6)
      (try rw [Addr.add_zero'] at hx905_6)
      (try rw [show ((0 : Int)).toNat = 0 from rfl] at hx905_7)
      (try rw [show 0 * 8 = 0 from rfl] at hx905_7)
      (try rw [Addr.add_zero'] at hx905_7)
      replace hx905_0 := hbw HB.out hx905_0
      replace hx905_1 := hbw HB.out hx905_1
      replace hx905_2 := hbw HB.out hx905_2
      replace hx905_3 := hbw HB.out hx905_3
      replace hx905_4 := hbw HB.out hx905_4
      replace hx905_5 := hbw HB.out hx905_5
      replace hx905_6 := hbw HB.out hx905_6
      replace hx905_7 := hbw HB.out hx905_7
      have HR905_7 := Aside0.mk hi905_7
      have HC905_7 := Aside0.mk hl905_7
      clear hi905_7 hl905_7
      replace p905 := eq_true p905
      replace q905 := eq_true q905
      go_upto_if 58 with (first | ((with_reducible refine gate_callee (f := 41) rfl ?_); refine gl_ (some 50) Tryz.func41 (by kernel_rfl) #[.slice A0 l0.length c0, .agg #[.int .i64 ((rd_T31 l1_7 0).f0), .int .i64 ((rd_T31 l1_7 0).f1.f0), .int .i64 ((rd_T31 l1_7 0).f1.f1.f0), .int .i64 ((rd_T31 l1_7 0).f1.f1.f1), .string ((rd_T31 l1_7 0).f1.f2), .int .i64 ((rd_T31 l1_7 0).f1.f3), .string ((rd_T31 l1_7 0).f2), .slice A905_7 ((rd_T31 l1_7 0).f3).length c905_7]] rfl ?_; (with_reducible refine (ih k (by omega) _ _ l0 ((rd_T31 l1_7 0).f0) ((rd_T31 l1_7 0).f1.f0) ((rd_T31 l1_7 0).f1.f1.f0) ((rd_T31 l1_7 0).f1.f1.f1) ((rd_T31 l1_7 0).f1.f2) ((rd_T31 l1_7 0).f1.f3) ((rd_T31 l1_7 0).f2) _ _ ((rd_T31 l1_7 0).f3) t906 t907 t908 t909 t910 _ ?side1 ?side2 ?side3 ?side4 ?side5 A43.out).mono ?_); (case side1 => repeat (first | exact (Kd.C_below HR0.out HB.out) | (with_reducible refine Kd.C_alloc ?_ _) | (with_reducible refine Kd.C_drewN ?_ _) | (with_reducible refine Kd.C_drew ?_))); (case side2 => exact HC0.out); (case side3 => repeat (first | exact (Kd.C_below HR905_7.out HB.out) | (with_reducible refine Kd.C_alloc ?_ _) | (with_reducible refine Kd.C_drewN ?_ _) | (with_reducible refine Kd.C_drew ?_))); (case side4 => exact HC905_7.out); (case side5 => exact tabs_of HT.out (bz HB.out)); rintro e w48 ⟨rfl, hb⟩; refine ⟨_, rfl, ?_⟩; replace BK882 := kb BK882 hb; replace BK883 := kb BK883 hb; replace HB := sb HB hb; clear hb) | ((with_reducible refine gate_dst (N := 6) rfl ?_); refine bev (#[.int .i64 0, .int .i64 0, .int .i64 0, .string (⟨#[]⟩ : ByteArray), .int .i64 0]) 25 ?_; intro gb911 hg w49 hbox hb; have BK911 := Aside0.mk (hbox); have GW911 := gs hg HB; have GE911 := GW911; replace HB := sb HB hb; have NB882_911 := na hg BK882; have NB911_882 := nb hg BK882; replace BK882 := kb BK882 hb; have NB883_911 := na hg BK883; have NB911_883 := nb hg BK883; replace BK883 := kb BK883 hb; clear hb hbox hg; have hnb50 := NB911_882.out; have hnc50 := NB882_911.out; have hnb51 := NB911_883.out; have hnc51 := NB883_911.out; obtain ⟨Z52_0, Z52_1, Z52_2, Z52_3, Z52_4, F52_0, F52_1, F52_2, F52_3, F52_4⟩ := cz5 BK911.out; obtain ⟨Z53_0, Z53_1, Z53_2, Z53_3, Z53_4, Z53_5, Z53_6, Z53_7, F53_0, F53_1, F53_2, F53_3, F53_4, F53_5, F53_6, F53_7⟩ := cz8 BK882.out))
      (try simp only [Act.put, List.setIfInBounds_toArray, List.set_cons_zero, List.set_cons_succ])
      have H := HC45.out
      clear HC45
      clear Z47_0 Z47_1 Z47_2 Z47_3 Z47_4 Z47_5 Z47_6 Z47_7 F47_0 F47_1 F47_2 F47_3 F47_4 F47_5 F47_6 F47_7 hx905_0 hx905_1 hx905_2 hx905_3 hx905_4 hx905_5 hx905_6 hx905_7 Z52_0 Z52_1 Z52_2 Z52_3 Z52_4 F52_0 F52_1 F52_2 F52_3 F52_4 Z53_0 Z53_1 Z53_2 Z53_3 Z53_4 Z53_5 Z53_6 Z53_7 F53_0 F53_1 F53_2 F53_3 F53_4 F53_5 F53_6 F53_7
      by_cases c54 : a1_0 = 16
      ·replace H := ipe c54 H
       obtain ⟨H, c54b0, c54b1⟩ := H
       clear c54
       (first | rw [c54b0] | (simp only [i64_w, i32_w]; rw [c54b0]) | skip)
       exact absurd H (by simp)
      ·replace H := ine c54 H
       obtain ⟨H, c54b0, c54b1⟩ := H
       (first | rw [c54b0] | (simp only [i64_w, i32_w]; rw [c54b0]) | skip)
       by_cases c55 : 1 < (l1_7.length : Int)
       ·rw [if_pos c55] at H
        have c55b0 : decide (1 < (l1_7.length : Int)) = true := decide_eq_true c55
        have c55b1 : decide (1 < l1_7.length) = true := decide_eq_true (by omega)
        clear c55
        replace H := Option.bind_eq_some_iff.mp H
        obtain ⟨⟨t913, t914, t915, t916, t917⟩, A560, H⟩ := H
        replace H : (if a1_0 = 8 then (none) else (if a1_0 = 9 then (none) else (if a1_0 = 10 then (none) else (if a1_0 = 12 then ((calc_Less.f k t913 t914 t915 t916 t917 t906 t907 t908 t909 t910).bind fun bt919 => (some (bt919.1, bt919.2.1, bt919.2.2.1, bt919.2.2.2.1, bt919.2.2.2.2))) else (if a1_0 = 11 then (none) else (if a1_0 = 13 then (none) else (if a1_0 = 14 then (none) else (if a1_0 = 15 then (none) else ((calc_reckon.f k a1_0 t906 t907 t908 t909 t910 t913 t914 t915 t916 t917).bind fun bt930 => (some (bt930.1, bt930.2.1, bt930.2.2.1, bt930.2.2.2.1, bt930.2.2.2.2))))))))))) = some (r1, r2, r3, r4, r5) := H
        have A56 := Aside0.mk A560
        clear A560
        have HC57 := Aside0.mk H
        clear H
        have hnb58 := NB882_883.out
        have hnc58 := NB883_882.out
        have hnb59 := NB882_911.out
        have hnc59 := NB911_882.out
        obtain ⟨Z60_0, Z60_1, Z60_2, Z60_3, Z60_4, Z60_5, Z60_6, Z60_7, F60_0, F60_1, F60_2, F60_3, F60_4, F60_5, F60_6, F60_7⟩ := cz8 BK882.out
        have p912 : 0 ≤ (1 : Int) := (by omega)
        have q912 : 1 < (l1_7.length : Int) := of_decide_eq_true tz
        obtain ⟨ad912, A912_7, c912_7, e912, hx912_0, hx912_1, hx912_2, hx912_3, hx912_4, hx912_5, hx912_6, hx912_7, hl912_7, hi912_7⟩ := at_T31 HR1_7.out 1 p912 q912
        obtain rfl : ad905 = ad912 := (by injection e912)
        (try simp only [show (1 : Int).toNat = 1 from rfl, Nat.reduceMul, Nat.reduceEqDiff, Go.Addr.add, ↓reduceIte] at hx912_0)
        (try simp only [show (1 : Int).toNat = 1 from rfl, Nat.reduceMul, Nat.reduceEqDiff, Go.Addr.add, ↓reduceIte] at hx912_1)
        (try simp only [show (1 : Int).toNat = 1 from rfl, Nat.reduceMul, Nat.reduceEqDiff, Go.Addr.add, ↓reduceIte] at hx912_2)
        (try simp only [show (1 : Int).toNat = 1 from rfl, Nat.reduceMul, Nat.reduceEqDiff, Go.Addr.add, ↓reduceIte] at hx912_3)
        (try simp only [show (1 : Int).toNat = 1 from rfl, Nat.reduceMul, Nat.reduceEqDiff, Go.Addr.add, ↓reduceIte] at hx912_4)
        (try simp only [show (1 : Int).toNat = 1 from rfl, Nat.reduceMul, Nat.reduceEqDiff, Go.Addr.add, ↓reduceIte] at hx912_5)
        (try simp only [show (1 : Int).toNat = 1 from rfl, Nat.reduceMul, Nat.reduceEqDiff, Go.Addr.add, ↓reduceIte] at hx912_6)
        (try simp only [show (1 : Int).toNat = 1 from rfl, Nat.reduceMul, Nat.reduceEqDiff, Go.Addr.add, ↓reduceIte] at hx912_7)
        have qi912 : (1 < l1_7.length) = True := eq_true (by omega)
        (try rw [show ((1 : Int)).toNat = 1 from rfl] at hx912_0)
        (try rw [show 1 * 8 = 8 from rfl] at hx912_0)
        (try rw [show ((1 : Int)).toNat = 1 from rfl] at hx912_1)
        (try rw [show 1 * 8 = 8 from rfl] at hx912_1)
        (try rw [show ((1 : Int)).toNat = 1 from rfl] at hx912_2)
        (try rw [show 1 * 8 = 8 from rfl] at hx912_2)
        (try rw [show ((1 : Int)).toNat = 1 from rfl] at hx912_3)
        (try rw [show 1 * 8 = 8 from rfl] at hx912_3)
        (try rw [show ((1 : Int)).toNat = 1 from rfl] at hx912_4)
        (try rw [show 1 * 8 = 8 from rfl] at hx912_4)
        (try rw [show ((1 : Int)).toNat = 1 from rfl] at hx912_5)
        (try rw [show 1 * 8 = 8 from rfl] at hx912_5)
        (try rw [show ((1 : Int)).toNat = 1 from rfl] at hx912_6)
        (try rw [show 1 * 8 = 8 from rfl] at hx912_6)
        (try rw [show ((1 : Int)).toNat = 1 from rfl] at hx912_7)
        (try rw [show 1 * 8 = 8 from rfl] at hx912_7)
        have hn912_0 : ad905.block ≠ gb911 := Nat.ne_of_lt (Nat.lt_of_lt_of_le (by have := World.block_lt_of_cell? _ _ hx912_0; first | rwa [add_block] at this | exact this) GW911.out)
        have hn912_1 : ad905.block ≠ gb911 := Nat.ne_of_lt (Nat.lt_of_lt_of_le (by have := World.block_lt_of_cell? _ _ hx912_0; first | rwa [add_block] at this | exact this) GW911.out)
        have hn912_2 : ad905.block ≠ gb911 := Nat.ne_of_lt (Nat.lt_of_lt_of_le (by have := World.block_lt_of_cell? _ _ hx912_0; first | rwa [add_block] at this | exact this) GW911.out)
        have hn912_3 : ad905.block ≠ gb911 := Nat.ne_of_lt (Nat.lt_of_lt_of_le (by have := World.block_lt_of_cell? _ _ hx912_0; first | rwa [add_block] at this | exact this) GW911.out)
        have hn912_4 : ad905.block ≠ gb911 := Nat.ne_of_lt (Nat.lt_of_lt_of_le (by have := World.block_lt_of_cell? _ _ hx912_0; first | rwa [add_block] at this | exact this) GW911.out)
        replace hx912_0 := hbw HB.out hx912_0
        replace hx912_1 := hbw HB.out hx912_1
        replace hx912_2 := hbw HB.out hx912_2
        replace hx912_3 := hbw HB.out hx912_3
        replace hx912_4 := hbw HB.out hx912_4
        replace hx912_5 := hbw HB.out hx912_5
        replace hx912_6 := hbw HB.out hx912_6
        replace hx912_7 := hbw HB.out hx912_7
        have HR912_7 := Aside0.mk hi912_7
        have HC912_7 := Aside0.mk hl912_7
        clear hi912_7 hl912_7
        replace hx912_0 := (cell_far (p := ⟨gb911, 0, none⟩) (by first | (rw [add_block]; exact hn912_0) | (show (Addr.add _ _).block ≠ _; rw [add_block]; exact hn912_0) | exact hn912_0) (.int .i64 t906)).trans hx912_0
        replace hx912_1 := (cell_far (p := ⟨gb911, 0, none⟩) (by first | (rw [add_block]; exact hn912_0) | (show (Addr.add _ _).block ≠ _; rw [add_block]; exact hn912_0) | exact hn912_0) (.int .i64 t906)).trans hx912_1
        replace hx912_2 := (cell_far (p := ⟨gb911, 0, none⟩) (by first | (rw [add_block]; exact hn912_0) | (show (Addr.add _ _).block ≠ _; rw [add_block]; exact hn912_0) | exact hn912_0) (.int .i64 t906)).trans hx912_2
        replace hx912_3 := (cell_far (p := ⟨gb911, 0, none⟩) (by first | (rw [add_block]; exact hn912_0) | (show (Addr.add _ _).block ≠ _; rw [add_block]; exact hn912_0) | exact hn912_0) (.int .i64 t906)).trans hx912_3
        replace hx912_4 := (cell_far (p := ⟨gb911, 0, none⟩) (by first | (rw [add_block]; exact hn912_0) | (show (Addr.add _ _).block ≠ _; rw [add_block]; exact hn912_0) | exact hn912_0) (.int .i64 t906)).trans hx912_4
        replace hx912_5 := (cell_far (p := ⟨gb911, 0, none⟩) (by first | (rw [add_block]; exact hn912_0) | (show (Addr.add _ _).block ≠ _; rw [add_block]; exact hn912_0) | exact hn912_0) (.int .i64 t906)).trans hx912_5
        replace hx912_6 := (cell_far (p := ⟨gb911, 0, none⟩) (by first | (rw [add_block]; exact hn912_0) | (show (Addr.add _ _).block ≠ _; rw [add_block]; exact hn912_0) | exact hn912_0) (.int .i64 t906)).trans hx912_6
        replace hx912_7 := (cell_far (p := ⟨gb911, 0, none⟩) (by first | (rw [add_block]; exact hn912_0) | (show (Addr.add _ _).block ≠ _; rw [add_block]; exact hn912_0) | exact hn912_0) (.int .i64 t906)).trans hx912_7
        replace hx912_0 := (cell_far (p := ⟨gb911, 1, none⟩) (by first | (rw [add_block]; exact hn912_1) | (show (Addr.add _ _).block ≠ _; rw [add_block]; exact hn912_1) | exact hn912_1) (.int .i64 t907)).trans hx912_0
        replace hx912_1 := (cell_far (p := ⟨gb911, 1, none⟩) (by first | (rw [add_block]; exact hn912_1) | (show (Addr.add _ _).block ≠ _; rw [add_block]; exact hn912_1) | exact hn912_1) (.int .i64 t907)).trans hx912_1
        replace hx912_2 := (cell_far (p := ⟨gb911, 1, none⟩) (by first | (rw [add_block]; exact hn912_1) | (show (Addr.add _ _).block ≠ _; rw [add_block]; exact hn912_1) | exact hn912_1) (.int .i64 t907)).trans hx912_2
        replace hx912_3 := (cell_far (p := ⟨gb911, 1, none⟩) (by first | (rw [add_block]; exact hn912_1) | (show (Addr.add _ _).block ≠ _; rw [add_block]; exact hn912_1) | exact hn912_1) (.int .i64 t907)).trans hx912_3
        replace hx912_4 := (cell_far (p := ⟨gb911, 1, none⟩) (by first | (rw [add_block]; exact hn912_1) | (show (Addr.add _ _).block ≠ _; rw [add_block]; exact hn912_1) | exact hn912_1) (.int .i64 t907)).trans hx912_4
        replace hx912_5 := (cell_far (p := ⟨gb911, 1, none⟩) (by first | (rw [add_block]; exact hn912_1) | (show (Addr.add _ _).block ≠ _; rw [add_block]; exact hn912_1) | exact hn912_1) (.int .i64 t907)).trans hx912_5
        replace hx912_6 := (cell_far (p := ⟨gb911, 1, none⟩) (by first | (rw [add_block]; exact hn912_1) | (show (Addr.add _ _).block ≠ _; rw [add_block]; exact hn912_1) | exact hn912_1) (.int .i64 t907)).trans hx912_6
        replace hx912_7 := (cell_far (p := ⟨gb911, 1, none⟩) (by first | (rw [add_block]; exact hn912_1) | (show (Addr.add _ _).block ≠ _; rw [add_block]; exact hn912_1) | exact hn912_1) (.int .i64 t907)).trans hx912_7
        replace hx912_0 := (cell_far (p := ⟨gb911, 2, none⟩) (by first | (rw [add_block]; exact hn912_2) | (show (Addr.add _ _).block ≠ _; rw [add_block]; exact hn912_2) | exact hn912_2) (.int .i64 t908)).trans hx912_0
        replace hx912_1 := (cell_far (p := ⟨gb911, 2, none⟩) (by first | (rw [add_block]; exact hn912_2) | (show (Addr.add _ _).block ≠ _; rw [add_block]; exact hn912_2) | exact hn912_2) (.int .i64 t908)).trans hx912_1
        replace hx912_2 := (cell_far (p := ⟨gb911, 2, none⟩) (by first | (rw [add_block]; exact hn912_2) | (show (Addr.add _ _).block ≠ _; rw [add_block]; exact hn912_2) | exact hn912_2) (.int .i64 t908)).trans hx912_2
        replace hx912_3 := (cell_far (p := ⟨gb911, 2, none⟩) (by first | (rw [add_block]; exact hn912_2) | (show (Addr.add _ _).block ≠ _; rw [add_block]; exact hn912_2) | exact hn912_2) (.int .i64 t908)).trans hx912_3
        replace hx912_4 := (cell_far (p := ⟨gb911, 2, none⟩) (by first | (rw [add_block]; exact hn912_2) | (show (Addr.add _ _).block ≠ _; rw [add_block]; exact hn912_2) | exact hn912_2) (.int .i64 t908)).trans hx912_4
        replace hx912_5 := (cell_far (p := ⟨gb911, 2, none⟩) (by first | (rw [add_block]; exact hn912_2) | (show (Addr.add _ _).block ≠ _; rw [add_block]; exact hn912_2) | exact hn912_2) (.int .i64 t908)).trans hx912_5
        replace hx912_6 := (cell_far (p := ⟨gb911, 2, none⟩) (by first | (rw [add_block]; exact hn912_2) | (show (Addr.add _ _).block ≠ _; rw [add_block]; exact hn912_2) | exact hn912_2) (.int .i64 t908)).trans hx912_6
        replace hx912_7 := (cell_far (p := ⟨gb911, 2, none⟩) (by first | (rw [add_block]; exact hn912_2) | (show (Addr.add _ _).block ≠ _; rw [add_block]; exact hn912_2) | exact hn912_2) (.int .i64 t908)).trans hx912_7
        replace hx912_0 := (cell_far (p := ⟨gb911, 3, none⟩) (by first | (rw [add_block]; exact hn912_3) | (show (Addr.add _ _).block ≠ _; rw [add_block]; exact hn912_3) | exact hn912_3) (.string t909)).trans hx912_0
        replace hx912_1 := (cell_far (p := ⟨gb911, 3, none⟩) (by first | (rw [add_block]; exact hn912_3) | (show (Addr.add _ _).block ≠ _; rw [add_block]; exact hn912_3) | exact hn912_3) (.string t909)).trans hx912_1
        replace hx912_2 := (cell_far (p := ⟨gb911, 3, none⟩) (by first | (rw [add_block]; exact hn912_3) | (show (Addr.add _ _).block ≠ _; rw [add_block]; exact hn912_3) | exact hn912_3) (.string t909)).trans hx912_2
        replace hx912_3 := (cell_far (p := ⟨gb911, 3, none⟩) (by first | (rw [add_block]; exact hn912_3) | (show (Addr.add _ _).block ≠ _; rw [add_block]; exact hn912_3) | exact hn912_3) (.string t909)).trans hx912_3
        replace hx912_4 := (cell_far (p := ⟨gb911, 3, none⟩) (by first | (rw [add_block]; exact hn912_3) | (show (Addr.add _ _).block ≠ _; rw [add_block]; exact hn912_3) | exact hn912_3) (.string t909)).trans hx912_4
        replace hx912_5 := (cell_far (p := ⟨gb911, 3, none⟩) (by first | (rw [add_block]; exact hn912_3) | (show (Addr.add _ _).block ≠ _; rw [add_block]; exact hn912_3) | exact hn912_3) (.string t909)).trans hx912_5
        replace hx912_6 := (cell_far (p := ⟨gb911, 3, none⟩) (by first | (rw [add_block]; exact hn912_3) | (show (Addr.add _ _).block ≠ _; rw [add_block]; exact hn912_3) | exact hn912_3) (.string t909)).trans hx912_6
        replace hx912_7 := (cell_far (p := ⟨gb911, 3, none⟩) (by first | (rw [add_block]; exact hn912_3) | (show (Addr.add _ _).block ≠ _; rw [add_block]; exact hn912_3) | exact hn912_3) (.string t909)).trans hx912_7
        replace hx912_0 := (cell_far (p := ⟨gb911, 4, none⟩) (by first | (rw [add_block]; exact hn912_4) | (show (Addr.add _ _).block ≠ _; rw [add_block]; exact hn912_4) | exact hn912_4) (.int .i64 t910)).trans hx912_0
        replace hx912_1 := (cell_far (p := ⟨gb911, 4, none⟩) (by first | (rw [add_block]; exact hn912_4) | (show (Addr.add _ _).block ≠ _; rw [add_block]; exact hn912_4) | exact hn912_4) (.int .i64 t910)).trans hx912_1
        replace hx912_2 := (cell_far (p := ⟨gb911, 4, none⟩) (by first | (rw [add_block]; exact hn912_4) | (show (Addr.add _ _).block ≠ _; rw [add_block]; exact hn912_4) | exact hn912_4) (.int .i64 t910)).trans hx912_2
        replace hx912_3 := (cell_far (p := ⟨gb911, 4, none⟩) (by first | (rw [add_block]; exact hn912_4) | (show (Addr.add _ _).block ≠ _; rw [add_block]; exact hn912_4) | exact hn912_4) (.int .i64 t910)).trans hx912_3
        replace hx912_4 := (cell_far (p := ⟨gb911, 4, none⟩) (by first | (rw [add_block]; exact hn912_4) | (show (Addr.add _ _).block ≠ _; rw [add_block]; exact hn912_4) | exact hn912_4) (.int .i64 t910)).trans hx912_4
        replace hx912_5 := (cell_far (p := ⟨gb911, 4, none⟩) (by first | (rw [add_block]; exact hn912_4) | (show (Addr.add _ _).block ≠ _; rw [add_block]; exact hn912_4) | exact hn912_4) (.int .i64 t910)).trans hx912_5
        replace hx912_6 := (cell_far (p := ⟨gb911, 4, none⟩) (by first | (rw [add_block]; exact hn912_4) | (show (Addr.add _ _).block ≠ _; rw [add_block]; exact hn912_4) | exact hn912_4) (.int .i64 t910)).trans hx912_6
        replace hx912_7 := (cell_far (p := ⟨gb911, 4, none⟩) (by first | (rw [add_block]; exact hn912_4) | (show (Addr.add _ _).block ≠ _; rw [add_block]; exact hn912_4) | exact hn912_4) (.int .i64 t910)).trans hx912_7
        clear hn912_0 hn912_1 hn912_2 hn912_3 hn912_4
        replace p912 := eq_true p912
        replace q912 := eq_true q912
        go_upto_if 70 with (first | ((with_reducible refine gate_callee (f := 41) rfl ?_); refine gl_ (some 67) Tryz.func41 (by kernel_rfl) #[.slice A0 l0.length c0, .agg #[.int .i64 ((rd_T31 l1_7 1).f0), .int .i64 ((rd_T31 l1_7 1).f1.f0), .int .i64 ((rd_T31 l1_7 1).f1.f1.f0), .int .i64 ((rd_T31 l1_7 1).f1.f1.f1), .string ((rd_T31 l1_7 1).f1.f2), .int .i64 ((rd_T31 l1_7 1).f1.f3), .string ((rd_T31 l1_7 1).f2), .slice A912_7 ((rd_T31 l1_7 1).f3).length c912_7]] rfl ?_; (with_reducible refine (ih k (by omega) _ _ l0 ((rd_T31 l1_7 1).f0) ((rd_T31 l1_7 1).f1.f0) ((rd_T31 l1_7 1).f1.f1.f0) ((rd_T31 l1_7 1).f1.f1.f1) ((rd_T31 l1_7 1).f1.f2) ((rd_T31 l1_7 1).f1.f3) ((rd_T31 l1_7 1).f2) _ _ ((rd_T31 l1_7 1).f3) t913 t914 t915 t916 t917 _ ?side1 ?side2 ?side3 ?side4 ?side5 A56.out).mono ?_); (case side1 => exact Kd.C_below HR0.out (bz HB.out)); (case side2 => exact HC0.out); (case side3 => exact Kd.C_below HR912_7.out (bz HB.out)); (case side4 => exact HC912_7.out); (case side5 => exact tabs_of HT.out (bz HB.out)); rintro e w61 ⟨rfl, hb⟩; refine ⟨_, rfl, ?_⟩; replace BK882 := Aside0.mk (blk_below (g := gb882) (o := .cells #[.int .i64 a1_0, .int .i64 a1_1, .int .i64 a1_2, .int .i64 a1_3, .string a1_4, .int .i64 a1_5, .string a1_6, .slice (some ad905) l1_7.length c1_7] 31 (0, 0)) (bp BK882.out) hb); replace BK883 := Aside0.mk (blk_below (g := gb883) (o := .cells #[.int .i64 0, .int .i64 0, .int .i64 0, .string (⟨#[]⟩ : ByteArray), .int .i64 0] 25 (0, 0)) (bp BK883.out) hb); replace BK911 := Aside0.mk (blk_below (g := gb911) (o := .cells #[.int .i64 t906, .int .i64 t907, .int .i64 t908, .string t909, .int .i64 t910] 25 (0, 0)) (bp BK911.out) hb); replace HB := sb HB hb; clear hb) | ((with_reducible refine gate_dst (N := 7) rfl ?_); refine bev (#[.int .i64 0, .int .i64 0, .int .i64 0, .string (⟨#[]⟩ : ByteArray), .int .i64 0]) 25 ?_; intro gb918 hg w62 hbox hb; have BK918 := Aside0.mk (hbox); have GW918 := gs hg HB; have GE918 := GW918; replace HB := sb HB hb; have NB882_918 := na hg BK882; have NB918_882 := nb hg BK882; replace BK882 := kb BK882 hb; have NB883_918 := na hg BK883; have NB918_883 := nb hg BK883; replace BK883 := kb BK883 hb; have NB911_918 := na hg BK911; have NB918_911 := nb hg BK911; replace BK911 := kb BK911 hb; clear hb hbox hg; have hnb63 := NB918_882.out; have hnc63 := NB882_918.out; have hnb64 := NB918_883.out; have hnc64 := NB883_918.out; have hnb65 := NB918_911.out; have hnc65 := NB911_918.out; obtain ⟨Z66_0, Z66_1, Z66_2, Z66_3, Z66_4, F66_0, F66_1, F66_2, F66_3, F66_4⟩ := cz5 BK918.out; obtain ⟨Z67_0, Z67_1, Z67_2, Z67_3, Z67_4, Z67_5, Z67_6, Z67_7, F67_0, F67_1, F67_2, F67_3, F67_4, F67_5, F67_6, F67_7⟩ := cz8 BK882.out))
        (try simp only [Act.put, List.setIfInBounds_toArray, List.set_cons_zero, List.set_cons_succ])
        have H := HC57.out
        clear HC57
        clear Z60_0 Z60_1 Z60_2 Z60_3 Z60_4 Z60_5 Z60_6 Z60_7 F60_0 F60_1 F60_2 F60_3 F60_4 F60_5 F60_6 F60_7 hx912_0 hx912_1 hx912_2 hx912_3 hx912_4 hx912_5 hx912_6 hx912_7 Z66_0 Z66_1 Z66_2 Z66_3 Z66_4 F66_0 F66_1 F66_2 F66_3 F66_4 Z67_0 Z67_1 Z67_2 Z67_3 Z67_4 Z67_5 Z67_6 Z67_7 F67_0 F67_1 F67_2 F67_3 F67_4 F67_5 F67_6 F67_7
        by_cases c68 : a1_0 = 8
        ·replace H := ipe c68 H
         obtain ⟨H, c68b0, c68b1⟩ := H
         clear c68
         (first | rw [c68b0] | (simp only [i64_w, i32_w]; rw [c68b0]) | skip)
         exact absurd H (by simp)
        ·replace H := ine c68 H
         obtain ⟨H, c68b0, c68b1⟩ := H
         (first | rw [c68b0] | (simp only [i64_w, i32_w]; rw [c68b0]) | skip)
         by_cases c69 : a1_0 = 9
         ·replace H := ipe c69 H
          obtain ⟨H, c69b0, c69b1⟩ := H
          clear c69
          exact absurd H (by simp)
         ·replace H := ine c69 H
          obtain ⟨H, c69b0, c69b1⟩ := H
          by_cases c70 : a1_0 = 10
          ·rw [if_pos c70] at H
           exact absurd H (by simp)
          ·replace H := ine c70 H
           obtain ⟨H, c70b0, c70b1⟩ := H
           by_cases c71 : a1_0 = 12
           ·replace H := ipe c71 H
            obtain ⟨H, c71b0, c71b1⟩ := H
            clear c71
            replace H := Option.bind_eq_some_iff.mp H
            obtain ⟨⟨t919, t920, t921, t922, t923⟩, A720, H⟩ := H
            replace H : (some (t919, t920, t921, t922, t923)) = some (r1, r2, r3, r4, r5) := H
            have A72 := Aside0.mk A720
            clear A720
            simp only [Option.some.injEq, Prod.mk.injEq] at H
            obtain ⟨rfl, rfl, rfl, rfl, rfl⟩ := H
            have hnb73 := NB918_882.out
            have hnc73 := NB882_918.out
            have hnb74 := NB918_883.out
            have hnc74 := NB883_918.out
            have hnb75 := NB918_911.out
            have hnc75 := NB911_918.out
            obtain ⟨Z76_0, Z76_1, Z76_2, Z76_3, Z76_4, F76_0, F76_1, F76_2, F76_3, F76_4⟩ := cz5 BK918.out
            have hnb77 := NB911_882.out
            have hnc77 := NB882_911.out
            have hnb78 := NB911_883.out
            have hnc78 := NB883_911.out
            obtain ⟨Z79_0, Z79_1, Z79_2, Z79_3, Z79_4, F79_0, F79_1, F79_2, F79_3, F79_4⟩ := cz5 BK911.out
            go_wp2_with (first | ((with_reducible refine gate_callee (f := 28) rfl ?_); refine gl_ (some 90) Tryz.func28 (by kernel_rfl) #[.agg #[.int .i64 t913, .int .i64 t914, .int .i64 t915, .string t916, .int .i64 t917], .agg #[.int .i64 t906, .int .i64 t907, .int .i64 t908, .string t909, .int .i64 t910]] rfl ?_; (with_reducible refine (calc_Less.calls k t913 t914 t915 t916 t917 t906 t907 t908 t909 t910 t919 t920 t921 t922 t923 _ ?side1 A72.out).mono ?_); (case side1 => exact tabs_of HT.out (bz HB.out)); rintro e w80 ⟨rfl, hb⟩; refine ⟨_, rfl, ?_⟩; replace BK882 := Aside0.mk (blk_below (g := gb882) (o := .cells #[.int .i64 a1_0, .int .i64 a1_1, .int .i64 a1_2, .int .i64 a1_3, .string a1_4, .int .i64 a1_5, .string a1_6, .slice (some ad905) l1_7.length c1_7] 31 (0, 0)) (bp BK882.out) hb); replace BK883 := Aside0.mk (blk_below (g := gb883) (o := .cells #[.int .i64 0, .int .i64 0, .int .i64 0, .string (⟨#[]⟩ : ByteArray), .int .i64 0] 25 (0, 0)) (bp BK883.out) hb); replace BK911 := Aside0.mk (blk_below (g := gb911) (o := .cells #[.int .i64 t906, .int .i64 t907, .int .i64 t908, .string t909, .int .i64 t910] 25 (0, 0)) (bp BK911.out) hb); replace BK918 := Aside0.mk (blk_below (g := gb918) (o := .cells #[.int .i64 t913, .int .i64 t914, .int .i64 t915, .string t916, .int .i64 t917] 25 (0, 0)) (bp BK918.out) hb); replace HB := sb HB hb; clear hb; have hnb81 := NB883_882.out; have hnc81 := NB882_883.out; obtain ⟨Z82_0, Z82_1, Z82_2, Z82_3, Z82_4, F82_0, F82_1, F82_2, F82_3, F82_4⟩ := cz5 BK883.out))
            refine bodyPost_ret (results_cell_row rfl _ _ gb883 25 #[.int .i64 t919, .int .i64 t920, .int .i64 t921, .string t922, .int .i64 t923] (0, 0) _ rfl (bp BK883.out) Tryz.underlying25 rfl (by kernel_rfl)) rfl ?_
            exact ⟨az, bz HB.out⟩
           ·replace H := ine c71 H
            obtain ⟨H, c71b0, c71b1⟩ := H
            by_cases c83 : a1_0 = 11
            ·rw [if_pos c83] at H
             exact absurd H (by simp)
            ·replace H := ine c83 H
             obtain ⟨H, c83b0, c83b1⟩ := H
             by_cases c84 : a1_0 = 13
             ·rw [if_pos c84] at H
              exact absurd H (by simp)
             ·replace H := ine c84 H
              obtain ⟨H, c84b0, c84b1⟩ := H
              by_cases c85 : a1_0 = 14
              ·replace H := ipe c85 H
               obtain ⟨H, c85b0, c85b1⟩ := H
               clear c85
               obtain ⟨y924, hy924⟩ : ∃ y_ : List (S25), y_ = (([(⟨t906, (⟨t907, t908⟩ : S23), t909, t910⟩ : S25), (⟨t913, (⟨t914, t915⟩ : S23), t916, t917⟩ : S25)] : List (S25))) := ⟨_, rfl⟩
               replace H : (none) = some (r1, r2, r3, r4, r5) := by first | (rw [hy924]; with_reducible exact H) | (have H2_ := (Option.bind_some _ _).symm.trans H; rw [hy924]; with_reducible exact H2_) | (have H2_ := (Option.bind_some _ _).symm.trans H; with_reducible exact H2_) | with_reducible exact H | (rw [hy924]; exact H) | exact H
               have Ny924 := Aside0.mk hy924
               clear hy924
               exact absurd H (by simp)
              ·replace H := ine c85 H
               obtain ⟨H, c85b0, c85b1⟩ := H
               by_cases c86 : a1_0 = 15
               ·replace H := ipe c86 H
                obtain ⟨H, c86b0, c86b1⟩ := H
                clear c86
                obtain ⟨y927, hy927⟩ : ∃ y_ : List (S25), y_ = (([(⟨t906, (⟨t907, t908⟩ : S23), t909, t910⟩ : S25), (⟨t913, (⟨t914, t915⟩ : S23), t916, t917⟩ : S25)] : List (S25))) := ⟨_, rfl⟩
                replace H : (none) = some (r1, r2, r3, r4, r5) := by first | (rw [hy927]; with_reducible exact H) | (have H2_ := (Option.bind_some _ _).symm.trans H; rw [hy927]; with_reducible exact H2_) | (have H2_ := (Option.bind_some _ _).symm.trans H; with_reducible exact H2_) | with_reducible exact H | (rw [hy927]; exact H) | exact H
                have Ny927 := Aside0.mk hy927
                clear hy927
                exact absurd H (by simp)
               ·replace H := ine c86 H
                obtain ⟨H, c86b0, c86b1⟩ := H
                replace H := Option.bind_eq_some_iff.mp H
                obtain ⟨⟨t930, t931, t932, t933, t934⟩, A870, H⟩ := H
                replace H : (some (t930, t931, t932, t933, t934)) = some (r1, r2, r3, r4, r5) := H
                have A87 := Aside0.mk A870
                clear A870
                simp only [Option.some.injEq, Prod.mk.injEq] at H
                obtain ⟨rfl, rfl, rfl, rfl, rfl⟩ := H
                have hnb88 := NB882_883.out
                have hnc88 := NB883_882.out
                have hnb89 := NB882_911.out
                have hnc89 := NB911_882.out
                have hnb90 := NB882_918.out
                have hnc90 := NB918_882.out
                obtain ⟨Z91_0, Z91_1, Z91_2, Z91_3, Z91_4, Z91_5, Z91_6, Z91_7, F91_0, F91_1, F91_2, F91_3, F91_4, F91_5, F91_6, F91_7⟩ := cz8 BK882.out
                have hnb92 := NB911_883.out
                have hnc92 := NB883_911.out
                have hnb93 := NB911_918.out
                have hnc93 := NB918_911.out
                obtain ⟨Z94_0, Z94_1, Z94_2, Z94_3, Z94_4, F94_0, F94_1, F94_2, F94_3, F94_4⟩ := cz5 BK911.out
                have hnb95 := NB918_883.out
                have hnc95 := NB883_918.out
                obtain ⟨Z96_0, Z96_1, Z96_2, Z96_3, Z96_4, F96_0, F96_1, F96_2, F96_3, F96_4⟩ := cz5 BK918.out
                go_wp2_with (first | ((with_reducible refine gate_callee (f := 79) rfl ?_); refine gl_ (some 119) Tryz.func79 (by kernel_rfl) #[.int .i64 a1_0, .agg #[.int .i64 t906, .int .i64 t907, .int .i64 t908, .string t909, .int .i64 t910], .agg #[.int .i64 t913, .int .i64 t914, .int .i64 t915, .string t916, .int .i64 t917]] rfl ?_; (with_reducible refine (calc_reckon.calls k a1_0 t906 t907 t908 t909 t910 t913 t914 t915 t916 t917 t930 t931 t932 t933 t934 _ ?side1 A87.out).mono ?_); (case side1 => exact tabs_of HT.out (bz HB.out)); rintro e w97 ⟨rfl, hb⟩; refine ⟨_, rfl, ?_⟩; replace BK882 := Aside0.mk (blk_below (g := gb882) (o := .cells #[.int .i64 a1_0, .int .i64 a1_1, .int .i64 a1_2, .int .i64 a1_3, .string a1_4, .int .i64 a1_5, .string a1_6, .slice (some ad905) l1_7.length c1_7] 31 (0, 0)) (bp BK882.out) hb); replace BK883 := Aside0.mk (blk_below (g := gb883) (o := .cells #[.int .i64 0, .int .i64 0, .int .i64 0, .string (⟨#[]⟩ : ByteArray), .int .i64 0] 25 (0, 0)) (bp BK883.out) hb); replace BK911 := Aside0.mk (blk_below (g := gb911) (o := .cells #[.int .i64 t906, .int .i64 t907, .int .i64 t908, .string t909, .int .i64 t910] 25 (0, 0)) (bp BK911.out) hb); replace BK918 := Aside0.mk (blk_below (g := gb918) (o := .cells #[.int .i64 t913, .int .i64 t914, .int .i64 t915, .string t916, .int .i64 t917] 25 (0, 0)) (bp BK918.out) hb); replace HB := sb HB hb; clear hb; obtain ⟨Z98_0, Z98_1, Z98_2, Z98_3, Z98_4, F98_0, F98_1, F98_2, F98_3, F98_4⟩ := cz5 BK883.out))
                refine bodyPost_ret (results_cell_row rfl _ _ gb883 25 #[.int .i64 t930, .int .i64 t931, .int .i64 t932, .string t933, .int .i64 t934] (0, 0) _ rfl (bp BK883.out) Tryz.underlying25 rfl (by kernel_rfl)) rfl ?_
                exact ⟨az, bz HB.out⟩
       ·rw [if_neg c55] at H
        exact absurd H (by simp)
    ·rw [if_neg c42] at H
     exact absurd H (by simp)
end Go.Proofs.YtgkemhgihbfmmaaGreatDoor.PA
end
section
namespace Go.Proofs.YtgkemhgihbfmmaaGreatDoor.PA
open Go.RowKit Go.Proofs.YtgkemhgihbfmmaaGreatDoorW.PrintWords Go.Proofs.YtgkemhgihbfmmaaGreatDoorW.PrintLast Go.Proofs.YtgkemhgihbfmmaaGreatDoorW.PrintMore
attribute [local go_sem] max2_int min2_int max_two min_two max_three min_three max_four min_four isSome_set str_gtr
set_option linter.unusedVariables false
set_option linter.unusedSimpArgs false
end Go.Proofs.YtgkemhgihbfmmaaGreatDoor.PA
end
section
namespace Go.Proofs.YtgkemhgihbfmmaaGreatDoor.PA
open Go.RowKit Go.Sort Go.Lib Go.Proofs.YtgkemhgihbfmmaaGreatDoorW.PrintWords Go.Proofs.YtgkemhgihbfmmaaGreatDoorW.PrintLast Go.Proofs.YtgkemhgihbfmmaaGreatDoorW.PrintMore
def sortNames (r : List ByteArray) : List (List UInt8) := Lib.compact ((r.map (·.data.toList)).mergeSort fun x y => decide (x ≤ y))
def expr_Names.f (k : Nat) (a0 a1 a2 a3 : Int) (a4 : ByteArray) (a5 : Int) (a6 : ByteArray) (l7 : List S31) : Option (List ByteArray) :=
  (expr_Sound.f k a0 a1 a2 a3 a4 a5 a6 l7).bind fun ok => if ok = true then (expr_names.f k a0 a1 a2 a3 a4 a5 a6 l7).bind fun r => if r.length < 4611686018427387904 then some ((sortNames r).map fun b => ⟨b.toArray⟩) else none else some []
theorem expr_Names.mono : ∀ a0 a1 a2 a3 a4 a5 a6 a7 k, LeO (expr_Names.f k a0 a1 a2 a3 a4 a5 a6 a7) (expr_Names.f (k + 1) a0 a1 a2 a3 a4 a5 a6 a7) := fun a0 a1 a2 a3 a4 a5 a6 a7 k =>
  LeO.bind (expr_Sound.mono _ _ _ _ _ _ _ _ k) fun _ => LeO.ite (LeO.bind (expr_names.mono _ _ _ _ _ _ _ _ k) fun _ => LeO.refl _) (LeO.refl _)
theorem below_grow {B : Nat} {w0 W : World} (h : Below B w0 W) (os : Array Obj) (hB : B ≤ W.heap.size) : Below B w0 (Sort.grow W os) :=
  ⟨h.os, h.tape, h.output, by show w0.heap.size ≤ (W.heap ++ os).size; rw [Array.size_append]; have := h.size; omega, fun k hk => (Sort.heap_grow_old W os (Nat.lt_of_lt_of_le hk hB)).trans (h.block k hk)⟩
theorem compact_le (zs : List (List UInt8)) : (Lib.compact zs).length ≤ zs.length := by
  unfold Lib.compact Lib.compactUpTo
  rw [List.length_map]
  exact Nat.le_trans (List.length_filter_le _ _) (by rw [List.length_range]; exact Nat.le_refl _)
theorem row_at (xs : List (List UInt8)) (k j : Nat) (hj : j < xs.length) : (xs ++ List.replicate k ([] : List UInt8)).toArray[j]! = xs[j] := by
  have h1 : j < (xs ++ List.replicate k ([] : List UInt8)).toArray.size := by simp; omega
  rw [getElem!_pos _ j h1, List.getElem_toArray, List.getElem_append_left hj]
set_option maxHeartbeats 4000000 in
set_option maxRecDepth 100000 in
theorem clip_calls (A : Option Addr) (n c : Nat) (w : World) (hc : n ≤ c) : Calls Tryz.prog 74 #[.slice A n c] w fun e w' => e = .returned (.slice A n n) ∧ w' = w := by
  have i1 : ((0 : Int) ≤ (n : Int)) = True := eq_true (by omega)
  have i2 : ((n : Int) ≤ (c : Int)) = True := eq_true (by omega)
  have i3 : (n ≤ c) = True := eq_true hc
  go_enter Tryz.func74, Tryz.ntmps74
  go_wp2
  go_ret
  exact ⟨rfl, rfl⟩
set_option maxHeartbeats 4000000 in
set_option maxRecDepth 100000 in
theorem expr_Names.calls (k : Nat) (a0_0 a0_1 a0_2 a0_3 : Int) (a0_4 : ByteArray) (a0_5 : Int) (a0_6 : ByteArray) (A0_7 : Option Addr) (c0_7 : Nat) (l0_7 : List S31) (r : List ByteArray) (w : World) (hr0_7 : Kd.C k31 w A0_7 l0_7.length l0_7) (hc0_7 : l0_7.length ≤ c0_7) (hT : Tabs w)
    (h : expr_Names.f k a0_0 a0_1 a0_2 a0_3 a0_4 a0_5 a0_6 l0_7 = some r) :
    Calls Tryz.prog 39 #[.agg #[.int .i64 a0_0, .int .i64 a0_1, .int .i64 a0_2, .int .i64 a0_3, .string a0_4, .int .i64 a0_5, .string a0_6, .slice A0_7 l0_7.length c0_7]] w fun e w' => ∃ A c, e = .returned (.slice A r.length c) ∧ Kd.C Kd.string w' A r.length r ∧ Below w.heap.size w w' := by
  obtain ⟨ok, hs, h⟩ := Option.bind_eq_some_iff.mp h
  have cS := fun (W : World) (hb : Below w.heap.size w W) => expr_Sound.calls k a0_0 a0_1 a0_2 a0_3 a0_4 a0_5 a0_6 A0_7 c0_7 l0_7 ok W (Kd.C_below hr0_7 hb) hc0_7 (tabs_of hT hb) hs
  have hu31 := Tryz.underlying31
  cases ok with
  | false =>
    simp only [Bool.false_eq_true, if_false, Option.some.injEq] at h
    subst h
    clear hr0_7 hc0_7 hT hs
    go_enter Tryz.func39, Tryz.ntmps39
    go_wp2_with (first
      | ((with_reducible refine gate_dst (N := 1) rfl ?_); refine bev (#[.int .i64 a0_0, .int .i64 a0_1, .int .i64 a0_2, .int .i64 a0_3, .string a0_4, .int .i64 a0_5, .string a0_6, .slice A0_7 l0_7.length c0_7]) 31 ?_; intro gb hgb w1 hbox hb1
         have HB1 := Aside0.mk hb1; obtain ⟨x0, x1, x2, x3, x4, x5, x6, x7, _⟩ := cz8 hbox; clear hgb hbox hb1)
      | (go_at_call 35; refine (cS _ HB1.out).mono ?_; rintro e w2 ⟨rfl, hb2⟩))
    go_ret
    exact ⟨_, _, rfl, Kd.C_of_reads (d := ByteArray.empty) ⟨rfl, by simp, fun h => absurd h (by simp)⟩, HB1.out.trans (hb2.mono HB1.out.size)⟩
  | true =>
    simp only [if_true] at h
    obtain ⟨t, hn, h⟩ := Option.bind_eq_some_iff.mp h
    split at h
    rotate_left
    · cases h
    rename_i hbig
    obtain rfl := Option.some.inj h
    have cN := fun (W : World) (hb : Below w.heap.size w W) => expr_names.calls k a0_0 a0_1 a0_2 a0_3 a0_4 a0_5 a0_6 A0_7 c0_7 l0_7 t W (Kd.C_below hr0_7 hb) hc0_7 hn
    clear hr0_7 hc0_7 hT hs hn h
    by_cases ht : t = []
    · subst ht
      have hr0 : ((sortNames []).map fun b => (⟨b.toArray⟩ : ByteArray)) = [] := by simp [sortNames, Lib.compact, Lib.compactUpTo]
      rw [hr0]
      go_enter Tryz.func39, Tryz.ntmps39
      go_wp2_with (first
        | ((with_reducible refine gate_dst (N := 1) rfl ?_); refine bev (#[.int .i64 a0_0, .int .i64 a0_1, .int .i64 a0_2, .int .i64 a0_3, .string a0_4, .int .i64 a0_5, .string a0_6, .slice A0_7 l0_7.length c0_7]) 31 ?_; intro gb hgb w1 hbox hb1
           have HB := Aside0.mk hb1; have HX := Aside0.mk hbox; obtain ⟨x0, x1, x2, x3, x4, x5, x6, x7, _⟩ := cz8 hbox; clear hgb hbox hb1)
        | (go_at_call 35; refine (cS _ HB.out).mono ?_; rintro e w2 ⟨rfl, hb2⟩; replace HX := Aside0.mk (blk_below HX.out hb2); replace HB := Aside0.mk (HB.out.trans (hb2.mono HB.out.size)); obtain ⟨x0, x1, x2, x3, x4, x5, x6, x7, _⟩ := cz8 HX.out; clear hb2)
        | (go_at_call 72; refine (cN _ HB.out).mono ?_; rintro e w3 ⟨v, rfl, hR, hb3⟩; obtain ⟨A, c, rfl⟩ := Kd.R_slice hR; replace HB := Aside0.mk (HB.out.trans (hb3.mono HB.out.size)); clear hR hb3)
        | (go_at_call 73; refine (Tryz.slices_Sort_string_none A c _).mono ?_; rintro e w4 ⟨rfl, rfl⟩)
        | (go_at_call 75; refine (Tryz.slices_Compact_string_empty A c _).mono ?_; rintro e w4 ⟨rfl, rfl⟩)
        | (go_at_call 74; refine (clip_calls A 0 c _ (Nat.zero_le _)).mono ?_; rintro e w4 ⟨rfl, rfl⟩))
      go_ret
      exact ⟨_, _, rfl, Kd.C_of_reads (d := ByteArray.empty) ⟨rfl, by simp, fun h => absurd h (by simp)⟩, HB.out⟩
    · obtain ⟨z, hz⟩ : ∃ z, t.map (·.data.toList) = z := ⟨_, rfl⟩
      obtain ⟨ss, hss⟩ : ∃ ss, (z.mergeSort fun x y => decide (x ≤ y)) = ss := ⟨_, rfl⟩
      have hlz : z.length = t.length := by rw [← hz, List.length_map]
      have hls : ss.length = t.length := by rw [← hss, List.length_mergeSort, hlz]
      have hsn : sortNames t = Lib.compact ss := by unfold sortNames; rw [hz, hss]
      have hcl : (Lib.compact ss).length ≤ t.length := by rw [← hls]; exact compact_le ss
      rw [hsn]
      have hpos : 0 < t.length := List.length_pos_iff.2 ht
      have cSort := fun (g cap : Nat) (W : World) (hH : Holds encStr W g 0 z.toArray) (hg : g < W.heap.size) => Tryz.slices_Sort_string g 0 cap z W hH hg (by omega)
      have cComp := fun (g cap : Nat) (W : World) (hH : Holds encStr W g 0 ss.toArray) (hcap : t.length ≤ cap) => Tryz.slices_Compact_string g 0 cap ss W hH (by omega) (by omega)
      simp only [hlz, hss] at cSort
      simp only [hls] at cComp
      go_enter Tryz.func39, Tryz.ntmps39
      go_wp2_with (first
        | ((with_reducible refine gate_dst (N := 1) rfl ?_); refine bev (#[.int .i64 a0_0, .int .i64 a0_1, .int .i64 a0_2, .int .i64 a0_3, .string a0_4, .int .i64 a0_5, .string a0_6, .slice A0_7 l0_7.length c0_7]) 31 ?_; intro gb hgb w1 hbox hb1
           have HB := Aside0.mk hb1; have HX := Aside0.mk hbox; obtain ⟨x0, x1, x2, x3, x4, x5, x6, x7, _⟩ := cz8 hbox; clear hgb hbox hb1)
        | (go_at_call 35; refine (cS _ HB.out).mono ?_; rintro e w2 ⟨rfl, hb2⟩; replace HX := Aside0.mk (blk_below HX.out hb2); replace HB := Aside0.mk (HB.out.trans (hb2.mono HB.out.size)); obtain ⟨x0, x1, x2, x3, x4, x5, x6, x7, _⟩ := cz8 HX.out; clear hb2)
        | (go_at_call 72; refine (cN _ HB.out).mono ?_; rintro e w3 ⟨v, rfl, hR, hb3⟩
           have hown := Kd.own_of_R hR
           rw [show encs Value.string t = z.map encStr from by rw [← hz, Lib.map_encStr]; rfl] at hown
           obtain ⟨A, c, hv⟩ := Kd.R_slice hR
           have hnn : v ≠ .slice none 0 0 := fun e => by rw [hv] at e; injection e with _ e2 _; omega
           obtain ⟨g, cap, rfl, hbg, hgl, hnc, _, _, hH⟩ := Lib.holds_of_ownsRow hown hnn
           have HG := Aside0.mk (Nat.le_trans HB.out.size hbg); replace HB := Aside0.mk (HB.out.trans (hb3.mono HB.out.size)); have HH := Aside0.mk hH; have HL := Aside0.mk hgl; have HN := Aside0.mk hnc; clear hR hb3 hown hv hnn hbg hgl hnc hH HX)
        | (go_at_call 73; refine (cSort g cap _ HH.out HL.out).mono ?_; rintro e w4 ⟨rfl, n, os, hw4⟩
           have HH4 := Aside0.mk (show Holds encStr w4 g 0 ss.toArray from by rw [hw4]; exact Sort.holds_grow encStr _ os g 0 _ (by rw [Sort.size_putRow]; exact HL.out) (Sort.holds_putRow encStr _ g 0 z.toArray ss.toArray (Sort.holds_ahead encStr _ n g 0 _ HH.out) (by simp [hlz, hls])))
           have HB4 := Aside0.mk (show Below w.heap.size w w4 from by rw [hw4]; exact below_grow (Lib.below_putRow HB.out HG.out) os (by rw [Sort.size_putRow]; exact HB.out.size))
           clear hw4)
        | (go_at_call 75; refine (cComp g cap _ HH4.out HN.out).mono ?_; rintro e w5 ⟨rfl, q, hw5⟩
           have HB5 := Aside0.mk (show Below w.heap.size w w5 from by rw [hw5]; exact Lib.below_putRow HB4.out HG.out)
           have HC5 := Aside0.mk (show ∀ j (hj : j < (Lib.compact ss).length), w5.cell? ⟨g, j, none⟩ = some (encStr (Lib.compact ss)[j]) from fun j hj => by
             have hc := Sort.cell?_putRow encStr (Sort.ahead w4 q) g 0 ss.toArray (Lib.compact ss ++ List.replicate (t.length - (Lib.compact ss).length) []).toArray (Sort.holds_ahead encStr _ q g 0 _ HH4.out) (by simp [hls]; omega) j (by simp; omega)
             rw [← hw5, Nat.zero_add] at hc
             rw [hc, row_at _ _ j hj])
           clear hw5)
        | (go_at_call 74; refine (clip_calls (some ⟨g, 0, none⟩) (Lib.compact ss).length cap _ (Nat.le_trans hcl HN.out)).mono ?_; rintro e w6 ⟨rfl, rfl⟩))
      go_ret
      refine ⟨some ⟨g, 0, none⟩, (Lib.compact ss).length, by rw [List.length_map]; rfl, Kd.C_of_reads (d := ByteArray.empty) ⟨rfl, by rw [List.length_map]; omega, fun _ => ⟨⟨g, 0, none⟩, rfl, fun j hj => ?_⟩⟩, HB5.out⟩
      rw [List.length_map] at hj
      have hc := HC5.out j hj
      rw [Addr.add_lit, Nat.zero_add, hc]
      simp [encStr, List.getD_eq_getElem?_getD, List.getElem?_map, List.getElem?_eq_getElem hj]
end Go.Proofs.YtgkemhgihbfmmaaGreatDoor.PA
end
section
namespace Go.Proofs.YtgkemhgihbfmmaaGreatDoor.PA
open Go.RowKit Go.Proofs.YtgkemhgihbfmmaaGreatDoorW.PrintWords Go.Proofs.YtgkemhgihbfmmaaGreatDoorW.PrintLast Go.Proofs.YtgkemhgihbfmmaaGreatDoorW.PrintMore
attribute [local go_sem] isSome_set
def allHave (l : List S27) : List ByteArray → Option Bool
  | [] => some true
  | n :: t => (fnd (fun y => some (y.f0.toList == n.toList)) l 0).bind fun r => if 0 ≤ r then allHave l t else some false
def unsound27 (k : Nat) (y : S27) : Option Bool := (value_Sound.f k y.f1.f0 y.f1.f1.f0 y.f1.f1.f1 y.f1.f2 y.f1.f3).bind fun ok => some (!ok)
def calc_Eval.f (k : Nat) (a0 a1 a2 a3 : Int) (a4 : ByteArray) (a5 : Int) (a6 : ByteArray) (l7 : List S31) (l1 : List S27) : Option (Int × Int × Int × ByteArray × Int × Int) :=
  (expr_Sound.f k a0 a1 a2 a3 a4 a5 a6 l7).bind fun ok => if ok = true then
    if l1.length < 4611686018427387904 then (fnd (unsound27 k) l1 0).bind fun r => if 0 ≤ r then some (0, 0, 0, ⟨#[]⟩, 0, 2) else
      (expr_Names.f k a0 a1 a2 a3 a4 a5 a6 l7).bind fun ns => (allHave l1 ns).bind fun all => if all = true then (calc_scope_eval.f k l1 a0 a1 a2 a3 a4 a5 a6 l7).bind fun v => some (v.1, v.2.1, v.2.2.1, v.2.2.2.1, v.2.2.2.2, 0) else some (0, 0, 0, ⟨#[]⟩, 0, 7)
    else none
  else some (0, 0, 0, ⟨#[]⟩, 0, 2)
theorem fnd_mono {p q : S27 → Option Bool} (h : ∀ y, LeO (p y) (q y)) : ∀ (l : List S27) (i : Nat), LeO (fnd p l i) (fnd q l i)
  | [], _ => LeO.refl _
  | y :: t, i => LeO.bind (h y) fun _ => LeO.ite (LeO.refl _) (fnd_mono h t (i + 1))
theorem calc_Eval.mono : ∀ a0 a1 a2 a3 a4 a5 a6 a7 a8 k, LeO (calc_Eval.f k a0 a1 a2 a3 a4 a5 a6 a7 a8) (calc_Eval.f (k + 1) a0 a1 a2 a3 a4 a5 a6 a7 a8) := fun a0 a1 a2 a3 a4 a5 a6 a7 a8 k =>
  LeO.bind (expr_Sound.mono _ _ _ _ _ _ _ _ k) fun _ => LeO.ite (LeO.ite (LeO.bind (fnd_mono (fun y => LeO.bind (value_Sound.mono _ _ _ _ _ k) fun _ => LeO.refl _) a8 0) fun _ => LeO.ite (LeO.refl _)
    (LeO.bind (expr_Names.mono _ _ _ _ _ _ _ _ k) fun _ => LeO.bind (LeO.refl _) fun _ => LeO.ite (LeO.bind (calc_scope_eval.mono _ _ _ _ _ _ _ _ _ k) fun _ => LeO.refl _) (LeO.refl _))) (LeO.none _)) (LeO.refl _)
theorem drop_str {l : List ByteArray} {i : Nat} (h : i < l.length) : l.drop i = rdOf ByteArray.empty l (i : Int) :: l.drop (i + 1) := by
  rw [List.drop_eq_getElem_cons h]
  congr 1
  show _ = l.getD (Int.toNat (i : Int)) ByteArray.empty
  rw [Int.toNat_natCast, List.getD_eq_getElem?_getD, List.getElem?_eq_getElem h, Option.getD_some]
theorem names_len {k : Nat} {a0 a1 a2 a3 : Int} {a4 : ByteArray} {a5 : Int} {a6 : ByteArray} {l7 : List S31} {ns : List ByteArray} (h : expr_Names.f k a0 a1 a2 a3 a4 a5 a6 l7 = some ns) : ns.length < 4611686018427387904 := by
  obtain ⟨ok, -, h⟩ := Option.bind_eq_some_iff.mp h
  split at h
  · obtain ⟨r, -, h⟩ := Option.bind_eq_some_iff.mp h
    split at h
    · rename_i hr
      obtain rfl := Option.some.inj h
      rw [List.length_map]
      refine Nat.lt_of_le_of_lt (compact_le _) ?_
      rwa [List.length_mergeSort, List.length_map]
    · cases h
  · obtain rfl := Option.some.inj h
    exact Nat.zero_lt_succ _
theorem below5 {n : Nat} {w0 w : World} {g : Nat} (h : Below n w0 w) (hg : n ≤ g) (a b c d e : Value) : Below n w0 (((((w.setCell ⟨g, 0, none⟩ a).setCell ⟨g, 1, none⟩ b).setCell ⟨g, 2, none⟩ c).setCell ⟨g, 3, none⟩ d).setCell ⟨g, 4, none⟩ e) :=
  ((((h.setCell (p := ⟨g, 0, none⟩) hg a).setCell (p := ⟨g, 1, none⟩) hg b).setCell (p := ⟨g, 2, none⟩) hg c).setCell (p := ⟨g, 3, none⟩) hg d).setCell (p := ⟨g, 4, none⟩) hg e
set_option maxHeartbeats 4000000 in
set_option maxRecDepth 100000 in
theorem calc_Eval.calls (k : Nat) (a0_0 a0_1 a0_2 a0_3 : Int) (a0_4 : ByteArray) (a0_5 : Int) (a0_6 : ByteArray) (A0_7 : Option Addr) (c0_7 : Nat) (l0_7 : List S31) (A1 : Option Addr) (c1 : Nat) (l1 : List S27) (r1 r2 r3 : Int) (r4 : ByteArray) (r5 r6 : Int) (w : World) (hr0_7 : Kd.C k31 w A0_7 l0_7.length l0_7) (hc0_7 : l0_7.length ≤ c0_7) (hr1 : Kd.C k27 w A1 l1.length l1) (hc1 : l1.length ≤ c1) (hT : Tabs w)
    (h : calc_Eval.f k a0_0 a0_1 a0_2 a0_3 a0_4 a0_5 a0_6 l0_7 l1 = some (r1, r2, r3, r4, r5, r6)) :
    Calls Tryz.prog 13 #[.agg #[.int .i64 a0_0, .int .i64 a0_1, .int .i64 a0_2, .int .i64 a0_3, .string a0_4, .int .i64 a0_5, .string a0_6, .slice A0_7 l0_7.length c0_7], .slice A1 l1.length c1] w fun e w' => e = .returned (.tuple #[.agg #[.int .i64 r1, .int .i64 r2, .int .i64 r3, .string r4, .int .i64 r5], .int .i64 r6]) ∧ Below w.heap.size w w' := by
  obtain ⟨ok, hs, h⟩ := Option.bind_eq_some_iff.mp h
  have cS := fun (W : World) (hb : Below w.heap.size w W) => expr_Sound.calls k a0_0 a0_1 a0_2 a0_3 a0_4 a0_5 a0_6 A0_7 c0_7 l0_7 ok W (Kd.C_below hr0_7 hb) hc0_7 (tabs_of hT hb) hs
  have hu31 := Tryz.underlying31
  have hu25 := Tryz.underlying25
  have HZ := Aside0.mk hT.null.pos
  have HTw := Aside0.mk hT
  cases ok with
  | false =>
    simp only [Bool.false_eq_true, if_false, Option.some.injEq, Prod.mk.injEq] at h
    obtain ⟨rfl, rfl, rfl, rfl, rfl, rfl⟩ := h
    clear hr0_7 hc0_7 hr1 hc1 hT hs
    go_enter Tryz.func13, Tryz.ntmps13
    go_wp2_with (first
      | ((with_reducible refine gate_dst (N := 2) rfl ?_); refine bev (#[.int .i64 a0_0, .int .i64 a0_1, .int .i64 a0_2, .int .i64 a0_3, .string a0_4, .int .i64 a0_5, .string a0_6, .slice A0_7 l0_7.length c0_7]) 31 ?_; intro gx hgx w1 hbox hb1
         have HB := Aside0.mk hb1; have HX := Aside0.mk hbox; have HGX := Aside0.mk (show w.heap.size ≤ gx from by rw [hgx]; exact Nat.le_refl _); clear hgx hbox hb1)
      | ((with_reducible refine gate_dst (N := 4) rfl ?_); refine bev (#[.int .i64 0, .int .i64 0, .int .i64 0, .string (⟨#[]⟩ : ByteArray), .int .i64 0]) 25 ?_; intro g4 hg4 w2 hbox hb1
         have H4 := Aside0.mk hbox; have HG4 := Aside0.mk (show w.heap.size ≤ g4 from by rw [hg4]; exact HB.out.size); replace HX := Aside0.mk (blk_below HX.out hb1); replace HB := Aside0.mk (HB.out.trans (hb1.mono HB.out.size)); obtain ⟨x0, x1, x2, x3, x4, x5, x6, x7, _⟩ := cz8 HX.out; clear hg4 hbox hb1)
      | (go_at_call 35; refine (cS _ HB.out).mono ?_; rintro e w3 ⟨rfl, hb3⟩; replace H4 := Aside0.mk (blk_below H4.out hb3); replace HB := Aside0.mk (HB.out.trans (hb3.mono HB.out.size)); obtain ⟨q0, q1, q2, q3, q4, f0, f1, f2, f3, f4⟩ := cz5 H4.out
         obtain ⟨n0, n1, n2, n3, n4⟩ := nullHere HTw.out HB.out; have hz4 := ne0 HZ.out HG4.out; clear hb3))
    refine bodyPost_ret (results_ct rfl _ _ g4 25 #[.int .i64 0, .int .i64 0, .int .i64 0, .string (⟨#[]⟩ : ByteArray), .int .i64 0] (0, 0) _ rfl (put5 H4.out) Tryz.underlying25 rfl (by kernel_rfl)) rfl ?_
    exact ⟨rfl, below5 HB.out HG4.out _ _ _ _ _⟩
  | true =>
    simp only [if_true] at h
    split at h
    rotate_left
    · cases h
    rename_i hbig
    obtain ⟨r, hr, h⟩ := Option.bind_eq_some_iff.mp h
    by_cases h0 : 0 ≤ r
    · rw [if_pos h0] at h
      simp only [Option.some.injEq, Prod.mk.injEq] at h
      obtain ⟨rfl, rfl, rfl, rfl, rfl, rfl⟩ := h
      have d0 : decide (0 ≤ r) = true := decide_eq_true h0
      go_enter Tryz.func13, Tryz.ntmps13
      go_wp2_with (first
        | ((with_reducible refine gate_dst (N := 2) rfl ?_); refine bev (#[.int .i64 a0_0, .int .i64 a0_1, .int .i64 a0_2, .int .i64 a0_3, .string a0_4, .int .i64 a0_5, .string a0_6, .slice A0_7 l0_7.length c0_7]) 31 ?_; intro gx hgx w1 hbox hb1; have HB := Aside0.mk hb1; have HX := Aside0.mk hbox; have HGX := Aside0.mk (show w.heap.size ≤ gx from by rw [hgx]; exact Nat.le_refl _); clear hgx hbox hb1)
        | ((with_reducible refine gate_dst (N := 4) rfl ?_); refine bev (#[.int .i64 0, .int .i64 0, .int .i64 0, .string (⟨#[]⟩ : ByteArray), .int .i64 0]) 25 ?_; intro g4 hg4 w2 hbox hb1; have H4 := Aside0.mk hbox; have HG4 := Aside0.mk (show w.heap.size ≤ g4 from by rw [hg4]; exact HB.out.size); replace HX := Aside0.mk (blk_below HX.out hb1); replace HB := Aside0.mk (HB.out.trans (hb1.mono HB.out.size)); obtain ⟨x0, x1, x2, x3, x4, x5, x6, x7, _⟩ := cz8 HX.out; clear hg4 hbox hb1)
        | (go_at_call 35; refine (cS _ HB.out).mono ?_; rintro e w3 ⟨rfl, hb3⟩; replace H4 := Aside0.mk (blk_below H4.out hb3); replace HX := Aside0.mk (blk_below HX.out hb3); replace HB := Aside0.mk (HB.out.trans (hb3.mono HB.out.size)); obtain ⟨x0, x1, x2, x3, x4, x5, x6, x7, _⟩ := cz8 HX.out; obtain ⟨q0, q1, q2, q3, q4, f0, f1, f2, f3, f4⟩ := cz5 H4.out; obtain ⟨n0, n1, n2, n3, n4⟩ := nullHere HTw.out HB.out; have hz4 := ne0 HZ.out HG4.out; clear hb3)
        | (go_at_call 36; refine (has27 37 #[] (unsound27 k) (enters_of Tryz.func37 (by kernel_rfl) rfl) l1 A1 c1 r _ (Kd.C_below hr1 HB.out) (gives37 k _ (tabs_of hT HB.out)) hbig hr).mono ?_; rintro e w3 ⟨rfl, hb3⟩; replace H4 := Aside0.mk (blk_below H4.out hb3); replace HX := Aside0.mk (blk_below HX.out hb3); replace HB := Aside0.mk (HB.out.trans (hb3.mono HB.out.size)); obtain ⟨x0, x1, x2, x3, x4, x5, x6, x7, _⟩ := cz8 HX.out; obtain ⟨q0, q1, q2, q3, q4, f0, f1, f2, f3, f4⟩ := cz5 H4.out; obtain ⟨n0, n1, n2, n3, n4⟩ := nullHere HTw.out HB.out; have hz4 := ne0 HZ.out HG4.out; clear hb3))
      refine bodyPost_ret (results_ct rfl _ _ g4 25 #[.int .i64 0, .int .i64 0, .int .i64 0, .string (⟨#[]⟩ : ByteArray), .int .i64 0] (0, 0) _ rfl (put5 H4.out) Tryz.underlying25 rfl (by kernel_rfl)) rfl ?_
      exact ⟨rfl, below5 HB.out HG4.out _ _ _ _ _⟩
    rw [if_neg h0] at h
    have d0 : decide (0 ≤ r) = false := decide_eq_false h0
    obtain ⟨ns, hn, h⟩ := Option.bind_eq_some_iff.mp h
    have hnl := names_len hn
    obtain ⟨all, hall, h⟩ := Option.bind_eq_some_iff.mp h
    have HA0 : Aside0 (allHave l1 (ns.drop 0) = some all) := ⟨hall⟩
    have HH := Aside0.mk h
    clear hall h
    go_enter Tryz.func13, Tryz.ntmps13
    go_wp2_with (first
      | ((with_reducible refine gate_dst (N := 2) rfl ?_); refine bev (#[.int .i64 a0_0, .int .i64 a0_1, .int .i64 a0_2, .int .i64 a0_3, .string a0_4, .int .i64 a0_5, .string a0_6, .slice A0_7 l0_7.length c0_7]) 31 ?_; intro gx hgx w1 hbox hb1; have HB := Aside0.mk hb1; have HX := Aside0.mk hbox; have HGX := Aside0.mk (show w.heap.size ≤ gx from by rw [hgx]; exact Nat.le_refl _); clear hgx hbox hb1)
      | ((with_reducible refine gate_dst (N := 4) rfl ?_); refine bev (#[.int .i64 0, .int .i64 0, .int .i64 0, .string (⟨#[]⟩ : ByteArray), .int .i64 0]) 25 ?_; intro g4 hg4 w2 hbox hb1; have H4 := Aside0.mk hbox; have HG4 := Aside0.mk (show w.heap.size ≤ g4 from by rw [hg4]; exact HB.out.size); replace HX := Aside0.mk (blk_below HX.out hb1); replace HB := Aside0.mk (HB.out.trans (hb1.mono HB.out.size)); obtain ⟨x0, x1, x2, x3, x4, x5, x6, x7, _⟩ := cz8 HX.out; clear hg4 hbox hb1)
      | (go_at_call 35; refine (cS _ HB.out).mono ?_; rintro e w3 ⟨rfl, hb3⟩; replace H4 := Aside0.mk (blk_below H4.out hb3); replace HX := Aside0.mk (blk_below HX.out hb3); replace HB := Aside0.mk (HB.out.trans (hb3.mono HB.out.size)); obtain ⟨x0, x1, x2, x3, x4, x5, x6, x7, _⟩ := cz8 HX.out; obtain ⟨q0, q1, q2, q3, q4, f0, f1, f2, f3, f4⟩ := cz5 H4.out; obtain ⟨n0, n1, n2, n3, n4⟩ := nullHere HTw.out HB.out; have hz4 := ne0 HZ.out HG4.out; clear hb3)
      | (go_at_call 36; refine (has27 37 #[] (unsound27 k) (enters_of Tryz.func37 (by kernel_rfl) rfl) l1 A1 c1 r _ (Kd.C_below hr1 HB.out) (gives37 k _ (tabs_of hT HB.out)) hbig hr).mono ?_; rintro e w3 ⟨rfl, hb3⟩; replace H4 := Aside0.mk (blk_below H4.out hb3); replace HX := Aside0.mk (blk_below HX.out hb3); replace HB := Aside0.mk (HB.out.trans (hb3.mono HB.out.size)); obtain ⟨x0, x1, x2, x3, x4, x5, x6, x7, _⟩ := cz8 HX.out; obtain ⟨q0, q1, q2, q3, q4, f0, f1, f2, f3, f4⟩ := cz5 H4.out; obtain ⟨n0, n1, n2, n3, n4⟩ := nullHere HTw.out HB.out; have hz4 := ne0 HZ.out HG4.out; clear hb3)
      | (go_at_call 39; refine (expr_Names.calls k a0_0 a0_1 a0_2 a0_3 a0_4 a0_5 a0_6 A0_7 c0_7 l0_7 ns _ (Kd.C_below hr0_7 HB.out) hc0_7 (tabs_of hT HB.out) hn).mono ?_; rintro e w3 ⟨An, cn, rfl, hCn, hb3⟩; have HCn := Aside0.mk hCn; clear hCn; replace H4 := Aside0.mk (blk_below H4.out hb3); replace HX := Aside0.mk (blk_below HX.out hb3); replace HB := Aside0.mk (HB.out.trans (hb3.mono HB.out.size)); obtain ⟨x0, x1, x2, x3, x4, x5, x6, x7, _⟩ := cz8 HX.out; obtain ⟨q0, q1, q2, q3, q4, f0, f1, f2, f3, f4⟩ := cz5 H4.out; obtain ⟨n0, n1, n2, n3, n4⟩ := nullHere HTw.out HB.out; have hz4 := ne0 HZ.out HG4.out; clear hb3))
    clear cS hs hr hn x0 x1 x2 x3 x4 x5 x6 x7 q0 q1 q2 q3 q4 f0 f1 f2 f3 f4 n0 n1 n2 n3 n4
    go_loopg [19] ns.length (fun gg s19 wr => ∃ kk : Nat, kk + gg = ns.length ∧ s19 = .int .i64 kk ∧ Aside0 (allHave l1 (ns.drop kk) = some all) ∧ Aside0 (Below w3.heap.size w3 wr))
    case atStart => exact ⟨0, Nat.zero_add _, rfl, HA0, ⟨Below.refl _ _⟩⟩
    case round =>
      obtain ⟨kk, hkg, rfl, HA, HW⟩ := hrel
      have HB1 := Aside0.mk (HB.out.trans (HW.out.mono HB.out.size))
      have H41 := Aside0.mk (blk_below H4.out HW.out)
      have HX1 := Aside0.mk (blk_below HX.out HW.out)
      obtain ⟨x0, x1, x2, x3, x4, x5, x6, x7, _⟩ := cz8 HX1.out
      obtain ⟨q0, q1, q2, q3, q4, f0, f1, f2, f3, f4⟩ := cz5 H41.out
      obtain ⟨n0, n1, n2, n3, n4⟩ := nullHere HTw.out HB1.out
      cases gk with
      | zero =>
        have d1 : decide ((kk : Int) < (ns.length : Int)) = false := decide_eq_false (by omega)
        have hA := HA.out
        rw [List.drop_eq_nil_of_le (by omega)] at hA
        obtain rfl := Option.some.inj hA
        have hh := HH.out
        simp only [if_true] at hh
        obtain ⟨⟨v1, v2, v3, v4, v5⟩, hv, hh⟩ := Option.bind_eq_some_iff.mp hh
        simp only [Option.some.injEq, Prod.mk.injEq] at hh
        obtain ⟨rfl, rfl, rfl, rfl, rfl, rfl⟩ := hh
        have cE := calc_scope_eval.calls k A1 c1 l1 a0_0 a0_1 a0_2 a0_3 a0_4 a0_5 a0_6 A0_7 c0_7 l0_7 v1 v2 v3 v4 v5 wr (Kd.C_below hr1 HB1.out) hc1 (Kd.C_below hr0_7 HB1.out) hc0_7 (tabs_of hT HB1.out) hv
        clear hv hr1 hr0_7 hT
        go_wp2_with (go_at_call 41; refine cE.mono ?_; rintro e w9 ⟨rfl, hb9⟩; have H49 := Aside0.mk (blk_below H41.out hb9); have HB9 := Aside0.mk (HB1.out.trans (hb9.mono HB1.out.size)); obtain ⟨p0, p1, p2, p3, p4, g0, g1, g2, g3, g5⟩ := cz5 H49.out; clear hb9)
        refine bodyPost_ret (results_ct rfl _ _ g4 25 #[.int .i64 v1, .int .i64 v2, .int .i64 v3, .string v4, .int .i64 v5] (0, 0) _ rfl (put5 H49.out) Tryz.underlying25 rfl (by kernel_rfl)) rfl ?_
        exact ⟨rfl, below5 HB9.out HG4.out _ _ _ _ _⟩
      | succ n =>
        have d1 : decide ((kk : Int) < (ns.length : Int)) = true := decide_eq_true (by omega)
        have p1 : (0 : Int) ≤ (kk : Int) := by omega
        have q1' : (kk : Int) < (ns.length : Int) := by omega
        obtain ⟨ad, e1, hx⟩ := Kd.at_string HCn.out (kk : Int) p1 q1'
        cases e1
        have hx2 : wr.cell? (ad.add kk) = some (.string (rdOf ByteArray.empty ns (kk : Int))) := pw_cell_below HW.out hx
        have i1 := eq_true p1
        have i2 := eq_true q1'
        have i3 : (kk < ns.length) = True := eq_true (by omega)
        have hA := HA.out
        rw [show ns.drop kk = rdOf ByteArray.empty ns (kk : Int) :: ns.drop (kk + 1) from drop_str (by omega)] at hA
        generalize rdOf ByteArray.empty ns (kk : Int) = y at hA hx hx2
        simp only [allHave] at hA
        obtain ⟨rr, hf, hA⟩ := Option.bind_eq_some_iff.mp hA
        have HA2 := Aside0.mk hA
        clear hA hx q0 q1 q2 q3 q4 f0 f1 f2 f3 f4 n0 n1 n2 n3 n4 x0 x1 x2 x3 x4 x5 x6 x7
        by_cases hrr : 0 ≤ rr
        · have d2 : decide (0 ≤ rr) = true := decide_eq_true hrr
          have hA := HA2.out
          rw [if_pos hrr] at hA
          have HA3 := Aside0.mk hA
          clear hA
          go_wp2_with (first
            | ((with_reducible refine gate_dst (N := 7) rfl ?_); refine bev (#[.string (⟨#[]⟩ : ByteArray)]) 9 ?_; intro gn hgn w5 hbox hb1; have HN := Aside0.mk hbox; have HGN := Aside0.mk (show w.heap.size ≤ gn from by rw [hgn]; exact HB1.out.size); have HWN := Aside0.mk (show w3.heap.size ≤ gn from by rw [hgn]; exact HW.out.size); have HB5 := Aside0.mk (HB1.out.trans (hb1.mono HB1.out.size)); have HW5 := Aside0.mk (HW.out.trans (hb1.mono HW.out.size)); obtain ⟨z0, z1⟩ := cz1 hbox; have zn := ne0 HZ.out HGN.out; clear hgn hbox hb1)
            | (go_at_call 36; refine (has27 40 #[.pointer (some ⟨gn, 0, none⟩)] (fun z => some (z.f0.toList == y.toList)) (enters_of Tryz.func40 (by kernel_rfl) rfl) l1 A1 c1 rr _ (Kd.C_below hr1 (HB5.out.setCell (p := ⟨gn, 0, none⟩) HGN.out _)) (gives40 gn y _ (blk_put HN.out 0 _ rfl)) hbig hf).mono ?_; rintro e w9 ⟨rfl, hb9⟩; have HW9 := Aside0.mk ((HW5.out.setCell (p := ⟨gn, 0, none⟩) HWN.out (.string y)).trans (hb9.mono (HW5.out.setCell (p := ⟨gn, 0, none⟩) HWN.out (.string y)).size)); have HB9 := Aside0.mk (HB.out.trans (HW9.out.mono HB.out.size)); have H49 := Aside0.mk (blk_below H4.out HW9.out); obtain ⟨q0, q1, q2, q3, q4, f0, f1, f2, f3, f4⟩ := cz5 H49.out; obtain ⟨n0, n1, n2, n3, n4⟩ := nullHere HTw.out HB9.out; have hz4 := ne0 HZ.out HG4.out; clear hb9))
          go_roundg n
          case measure => omega
          case rel => exact ⟨kk + 1, by omega, by go_num, HA3, HW9⟩
        · have d2 : decide (0 ≤ rr) = false := decide_eq_false hrr
          have hA := HA2.out
          rw [if_neg hrr] at hA
          obtain rfl := Option.some.inj hA
          have hh := HH.out
          simp only [Bool.false_eq_true, if_false, Option.some.injEq, Prod.mk.injEq] at hh
          obtain ⟨rfl, rfl, rfl, rfl, rfl, rfl⟩ := hh
          clear hA
          go_wp2_with (first
            | ((with_reducible refine gate_dst (N := 7) rfl ?_); refine bev (#[.string (⟨#[]⟩ : ByteArray)]) 9 ?_; intro gn hgn w5 hbox hb1; have HN := Aside0.mk hbox; have HGN := Aside0.mk (show w.heap.size ≤ gn from by rw [hgn]; exact HB1.out.size); have HWN := Aside0.mk (show w3.heap.size ≤ gn from by rw [hgn]; exact HW.out.size); have HB5 := Aside0.mk (HB1.out.trans (hb1.mono HB1.out.size)); have HW5 := Aside0.mk (HW.out.trans (hb1.mono HW.out.size)); obtain ⟨z0, z1⟩ := cz1 hbox; have zn := ne0 HZ.out HGN.out; clear hgn hbox hb1)
            | (go_at_call 36; refine (has27 40 #[.pointer (some ⟨gn, 0, none⟩)] (fun z => some (z.f0.toList == y.toList)) (enters_of Tryz.func40 (by kernel_rfl) rfl) l1 A1 c1 rr _ (Kd.C_below hr1 (HB5.out.setCell (p := ⟨gn, 0, none⟩) HGN.out _)) (gives40 gn y _ (blk_put HN.out 0 _ rfl)) hbig hf).mono ?_; rintro e w9 ⟨rfl, hb9⟩; have HW9 := Aside0.mk ((HW5.out.setCell (p := ⟨gn, 0, none⟩) HWN.out (.string y)).trans (hb9.mono (HW5.out.setCell (p := ⟨gn, 0, none⟩) HWN.out (.string y)).size)); have HB9 := Aside0.mk (HB.out.trans (HW9.out.mono HB.out.size)); have H49 := Aside0.mk (blk_below H4.out HW9.out); obtain ⟨q0, q1, q2, q3, q4, f0, f1, f2, f3, f4⟩ := cz5 H49.out; obtain ⟨n0, n1, n2, n3, n4⟩ := nullHere HTw.out HB9.out; have hz4 := ne0 HZ.out HG4.out; clear hb9))
          refine bodyPost_ret (results_ct rfl _ _ g4 25 #[.int .i64 0, .int .i64 0, .int .i64 0, .string (⟨#[]⟩ : ByteArray), .int .i64 0] (0, 0) _ rfl (put5 H49.out) Tryz.underlying25 rfl (by kernel_rfl)) rfl ?_
          exact ⟨rfl, below5 HB9.out HG4.out _ _ _ _ _⟩
end Go.Proofs.YtgkemhgihbfmmaaGreatDoor.PA
end
section
namespace Go.Proofs.YtgkemhgihbfmmaaGreatDoor.PA
open Go.RowKit Go.Proofs.YtgkemhgihbfmmaaGreatDoorW.PrintWords Go.Proofs.YtgkemhgihbfmmaaGreatDoorW.PrintLast Go.Proofs.YtgkemhgihbfmmaaGreatDoorW.PrintMore
attribute [local go_sem] max2_int min2_int max_two min_two max_three min_three max_four min_four isSome_set str_gtr
set_option linter.unusedVariables false
set_option linter.unusedSimpArgs false
attribute [local go_sem high] eqA25
def soffitlaw11_awake.f (k : Nat)  : Option (Bool) := (expr_Parse.f k (⟨#[105, 102, 32, 97, 32, 62, 32, 50, 32, 116, 104, 101, 110, 32, 97, 32, 42, 32, 50, 46, 53, 32, 101, 108, 115, 101, 32, 110, 117, 108, 108]⟩ : ByteArray)).bind fun bt935 => ((calc_Eval.f k bt935.1 bt935.2.1 bt935.2.2.1 bt935.2.2.2.1 bt935.2.2.2.2.1 bt935.2.2.2.2.2.1 bt935.2.2.2.2.2.2.1 bt935.2.2.2.2.2.2.2.1 (([(⟨(⟨#[97]⟩ : ByteArray), (⟨1, (⟨3, 0⟩ : S23), (⟨#[]⟩ : ByteArray), 0⟩ : S25)⟩ : S27)] : List (S27)))).bind fun bt951 => (if bt935.2.2.2.2.2.2.2.2.2 = 0 then (if bt951.2.2.2.2.2 = 0 then (some (bt951.1 == 1 && ((bt951.2.1 == 75 && (bt951.2.2.1 == 1)) && (bt951.2.2.2.1.toList == ([] : List UInt8) && (bt951.2.2.2.2.1 == 0))))) else (some false)) else (some false)))
theorem soffitlaw11_awake.mono : ∀ k, LeO (soffitlaw11_awake.f k ) (soffitlaw11_awake.f (k + 1) ) := by
 intro  k
 unfold soffitlaw11_awake.f
 have q0 := @calc_Eval.mono; have q1 := @expr_Parse.mono; exact lmo
set_option maxHeartbeats 8000000 in
set_option maxRecDepth 100000 in
theorem soffitlaw11_awake.calls (k : Nat)  (r : Bool) (w : World) (hT : Tabs w) (h : soffitlaw11_awake.f k  = some r) :
  Calls Tryz.prog 14 #[] w fun e w' => e = .returned (.bool r) ∧ Below w.heap.size w w' := by
 have hu31 := Tryz.underlying31
 have hu23 := Tryz.underlying23
 have hu25 := Tryz.underlying25
 have hu27 := Tryz.underlying27
 have HT := Aside0.mk hT
 clear hT
 have HB := Aside0.mk (Below.refl w.heap.size w)
 have H : ((expr_Parse.f k (⟨#[105, 102, 32, 97, 32, 62, 32, 50, 32, 116, 104, 101, 110, 32, 97, 32, 42, 32, 50, 46, 53, 32, 101, 108, 115, 101, 32, 110, 117, 108, 108]⟩ : ByteArray)).bind fun bt935 => ((calc_Eval.f k bt935.1 bt935.2.1 bt935.2.2.1 bt935.2.2.2.1 bt935.2.2.2.2.1 bt935.2.2.2.2.2.1 bt935.2.2.2.2.2.2.1 bt935.2.2.2.2.2.2.2.1 (([(⟨(⟨#[97]⟩ : ByteArray), (⟨1, (⟨3, 0⟩ : S23), (⟨#[]⟩ : ByteArray), 0⟩ : S25)⟩ : S27)] : List (S27)))).bind fun bt951 => (if bt935.2.2.2.2.2.2.2.2.2 = 0 then (if bt951.2.2.2.2.2 = 0 then (some (bt951.1 == 1 && ((bt951.2.1 == 75 && (bt951.2.2.1 == 1)) && (bt951.2.2.2.1.toList == ([] : List UInt8) && (bt951.2.2.2.2.1 == 0))))) else (some false)) else (some false)))) = some r := h
 clear h
 replace H := Option.bind_eq_some_iff.mp H
 obtain ⟨⟨t935, t936, t937, t938, t939, t940, t941, t942, t945, t946⟩, A10, H⟩ := H
 replace H : ((calc_Eval.f k t935 t936 t937 t938 t939 t940 t941 t942 (([(⟨(⟨#[97]⟩ : ByteArray), (⟨1, (⟨3, 0⟩ : S23), (⟨#[]⟩ : ByteArray), 0⟩ : S25)⟩ : S27)] : List (S27)))).bind fun bt951 => (if t946 = 0 then (if bt951.2.2.2.2.2 = 0 then (some (bt951.1 == 1 && ((bt951.2.1 == 75 && (bt951.2.2.1 == 1)) && (bt951.2.2.2.1.toList == ([] : List UInt8) && (bt951.2.2.2.2.1 == 0))))) else (some false)) else (some false))) = some r := H
 have A1 := Aside0.mk A10
 clear A10
 obtain ⟨y948, hy948⟩ : ∃ y_ : List (S27), y_ = (([(⟨(⟨#[97]⟩ : ByteArray), (⟨1, (⟨3, 0⟩ : S23), (⟨#[]⟩ : ByteArray), 0⟩ : S25)⟩ : S27)] : List (S27))) := ⟨_, rfl⟩
 replace H : ((calc_Eval.f k t935 t936 t937 t938 t939 t940 t941 t942 y948).bind fun bt951 => (if t946 = 0 then (if bt951.2.2.2.2.2 = 0 then (some (bt951.1 == 1 && ((bt951.2.1 == 75 && (bt951.2.2.1 == 1)) && (bt951.2.2.2.1.toList == ([] : List UInt8) && (bt951.2.2.2.2.1 == 0))))) else (some false)) else (some false))) = some r := by first | (rw [hy948]; with_reducible exact H) | (have H2_ := (Option.bind_some _ _).symm.trans H; rw [hy948]; with_reducible exact H2_) | (have H2_ := (Option.bind_some _ _).symm.trans H; with_reducible exact H2_) | with_reducible exact H | (rw [hy948]; exact H) | exact H
 have Ny948 := Aside0.mk hy948
 clear hy948
 replace H := Option.bind_eq_some_iff.mp H
 obtain ⟨⟨t951, t952, t953, t954, t955, t956⟩, A20, H⟩ := H
 replace H : (if t946 = 0 then (if t956 = 0 then (some (t951 == 1 && ((t952 == 75 && (t953 == 1)) && (t954.toList == ([] : List UInt8) && (t955 == 0))))) else (some false)) else (some false)) = some r := H
 have A2 := Aside0.mk A20
 clear A20
 have HC3 := Aside0.mk H
 clear H
 go_enter Tryz.func14, Tryz.ntmps14
 go_upto_region 3 with (first | ((with_reducible refine gate_callee (f := 12) rfl ?_); refine gl_ (some 7) Tryz.func12 (by kernel_rfl) #[.string (⟨#[105, 102, 32, 97, 32, 62, 32, 50, 32, 116, 104, 101, 110, 32, 97, 32, 42, 32, 50, 46, 53, 32, 101, 108, 115, 101, 32, 110, 117, 108, 108]⟩ : ByteArray)] rfl ?_; (with_reducible refine (expr_Parse.calls k (⟨#[105, 102, 32, 97, 32, 62, 32, 50, 32, 116, 104, 101, 110, 32, 97, 32, 42, 32, 50, 46, 53, 32, 101, 108, 115, 101, 32, 110, 117, 108, 108]⟩ : ByteArray) t935 t936 t937 t938 t939 t940 t941 t942 t945 t946 _ ?side1 A1.out).mono ?_); (case side1 => exact tabs_of HT.out (bz HB.out)); rintro e w4 ⟨v943, rfl, ho0, hb⟩; refine ⟨_, rfl, ?_⟩; have HO944 := Aside0.mk (Kd.V_lower (Kd.V_mono (ok' := fun k_ => True) ho0 (fun k_ hk_ => trivial)) (below_size (bz HB.out))); replace HB := sb HB hb; clear hb ho0) | ((with_reducible refine gate_dst (N := 1) rfl ?_); refine bev (#[.int .i64 0, .int .i64 0, .int .i64 0, .int .i64 0, .string (⟨#[]⟩ : ByteArray), .int .i64 0, .string (⟨#[]⟩ : ByteArray), .slice none 0 0]) 31 ?_; intro gb947 hg w5 hbox hb; replace HO944 := Aside0.mk (Kd.V_below (Kd.V_elderB (vv HO944.out) gb947 (Nat.le_of_eq hg.symm)) hb); have BK947 := Aside0.mk (hbox); have GW947 := gs hg HB; have GE947 := GW947; replace HB := sb HB hb; clear hb hbox hg; obtain ⟨Z6_0, Z6_1, Z6_2, Z6_3, Z6_4, Z6_5, Z6_6, Z6_7, F6_0, F6_1, F6_2, F6_3, F6_4, F6_5, F6_6, F6_7⟩ := cz8 BK947.out; obtain ⟨Ao7, co7, eo7⟩ := Kd.V_slice HO944.out; subst eo7) | ((with_reducible refine gate_dst (N := 16) rfl ?_); refine rlit k27 27 ([(⟨(⟨#[97]⟩ : ByteArray), (⟨1, (⟨3, 0⟩ : S23), (⟨#[]⟩ : ByteArray), 0⟩ : S25)⟩ : S27)] : List (S27)) [.string (⟨#[97]⟩ : ByteArray), .int .i64 1, .int .i64 3, .int .i64 0, .string (⟨#[]⟩ : ByteArray), .int .i64 0] ?_ (Below.refl _ _) (Nat.le_refl _) (Reps.c6 (show Kd.M k27 _ _ _ (⟨(⟨#[97]⟩ : ByteArray), (⟨1, (⟨3, 0⟩ : S23), (⟨#[]⟩ : ByteArray), 0⟩ : S25)⟩ : S27) [.string (⟨#[97]⟩ : ByteArray), .int .i64 1, .int .i64 3, .int .i64 0, .string (⟨#[]⟩ : ByteArray), .int .i64 0] from (k27_mkM _ _ _ (⟨(⟨#[97]⟩ : ByteArray), (⟨1, (⟨3, 0⟩ : S23), (⟨#[]⟩ : ByteArray), 0⟩ : S25)⟩ : S27) )) (Reps.none _ _)); intro v949 w8 ho9 hb hg_ hnew_; clear hg_ hnew_; (first | rw [← Ny948.out] at ho9 | (simp only [Int.reduceToNat] at ho9; rw [← Ny948.out] at ho9)); replace HO944 := Aside0.mk (Kd.V_elder' (by (with_reducible repeat (first | apply Kd.V_alloc | apply Kd.V_drewN | apply Kd.V_drew)); exact (Kd.V_mono (Kd.V_far (p := ⟨gb947, 7, none⟩) (Kd.V_far (p := ⟨gb947, 6, none⟩) (Kd.V_far (p := ⟨gb947, 5, none⟩) (Kd.V_far (p := ⟨gb947, 4, none⟩) (Kd.V_far (p := ⟨gb947, 3, none⟩) (Kd.V_far (p := ⟨gb947, 2, none⟩) (Kd.V_far (p := ⟨gb947, 1, none⟩) (Kd.V_far (p := ⟨gb947, 0, none⟩) (Kd.V_mono HO944.out (fun k_ hk => (⟨hk, hk.2⟩ : _ ∧ k_ ≠ gb947))) (fun _ hk => hk.2) (.int .i64 t935)) (fun _ hk => hk.2) (.int .i64 t936)) (fun _ hk => hk.2) (.int .i64 t937)) (fun _ hk => hk.2) (.int .i64 t938)) (fun _ hk => hk.2) (.string t939)) (fun _ hk => hk.2) (.int .i64 t940)) (fun _ hk => hk.2) (.string t941)) (fun _ hk => hk.2) (.slice Ao7 t942.length co7)) (fun _ h_ => h_.1))) (Kd.R_base ho9) hb); have HO950 := Aside0.mk (Kd.R_lower ho9 (below_size (bz HB.out))); replace BK947 := Aside0.mk (blk_below (g := gb947) (o := .cells #[.int .i64 t935, .int .i64 t936, .int .i64 t937, .int .i64 t938, .string t939, .int .i64 t940, .string t941, .slice Ao7 t942.length co7] 31 (0, 0)) (bp BK947.out) hb); replace HB := sb HB hb; clear hb ho9; obtain ⟨Ao10, co10, eo10⟩ := Kd.R_slice HO950.out; subst eo10) | ((with_reducible refine gate_callee (f := 13) rfl ?_); refine gl_ (some 17) Tryz.func13 (by kernel_rfl) #[.agg #[.int .i64 t935, .int .i64 t936, .int .i64 t937, .int .i64 t938, .string t939, .int .i64 t940, .string t941, .slice Ao7 t942.length co7], .slice Ao10 y948.length co10] rfl ?_; (with_reducible refine (calc_Eval.calls k t935 t936 t937 t938 t939 t940 t941 _ _ t942 _ _ y948 t951 t952 t953 t954 t955 t956 _ ?side1 ?side2 ?side3 ?side4 ?side5 A2.out).mono ?_); (case side1 => repeat (first | exact (Kd.V_reads' HO944.out).2.2 | (with_reducible refine Kd.C_alloc ?_ _) | (with_reducible refine Kd.C_drewN ?_ _) | (with_reducible refine Kd.C_drew ?_))); (case side2 => exact (Kd.V_reads' HO944.out).2.1); (case side3 => repeat (first | exact (Kd.R_reads' HO950.out).2.2 | (with_reducible refine Kd.C_alloc ?_ _) | (with_reducible refine Kd.C_drewN ?_ _) | (with_reducible refine Kd.C_drew ?_))); (case side4 => exact (Kd.R_reads' HO950.out).2.1); (case side5 => exact tabs_of HT.out (bz HB.out)); rintro e w11 ⟨rfl, hb⟩; refine ⟨_, rfl, ?_⟩; replace HO944 := Aside0.mk (Kd.V_below (vv HO944.out) hb); replace HO950 := Aside0.mk (Kd.R_below (rr HO950.out) hb); replace BK947 := kb BK947 hb; replace HB := sb HB hb; clear hb) | ((with_reducible refine gate_dst (N := 4) rfl ?_); refine bev (#[.int .i64 0, .int .i64 0, .int .i64 0, .string (⟨#[]⟩ : ByteArray), .int .i64 0]) 25 ?_; intro gb957 hg w12 hbox hb; replace HO944 := Aside0.mk (Kd.V_below (Kd.V_elderB (vv HO944.out) gb957 (Nat.le_of_eq hg.symm)) hb); replace HO950 := Aside0.mk (Kd.R_below (rr HO950.out) hb); have BK957 := Aside0.mk (hbox); have GW957 := gs hg HB; have GE957 := GW957; replace HB := sb HB hb; have NB947_957 := na hg BK947; have NB957_947 := nb hg BK947; replace BK947 := kb BK947 hb; clear hb hbox hg; have hnb13 := NB957_947.out; have hnc13 := NB947_957.out; obtain ⟨Z14_0, Z14_1, Z14_2, Z14_3, Z14_4, F14_0, F14_1, F14_2, F14_3, F14_4⟩ := cz5 BK957.out))
 (try simp only [Act.put, List.setIfInBounds_toArray, List.set_cons_zero, List.set_cons_succ])
 have H := HC3.out
 clear HC3
 clear Z6_0 Z6_1 Z6_2 Z6_3 Z6_4 Z6_5 Z6_6 Z6_7 F6_0 F6_1 F6_2 F6_3 F6_4 F6_5 F6_6 F6_7 Z14_0 Z14_1 Z14_2 Z14_3 Z14_4 F14_0 F14_1 F14_2 F14_3 F14_4
 by_cases c15 : t946 = 0
 ·replace H := ipe c15 H
  obtain ⟨H, c15b0, c15b1⟩ := H
  clear c15
  (first | rw [c15b0] | (simp only [i64_w, i32_w]; rw [c15b0]) | skip)
  by_cases c16 : t956 = 0
  ·replace H := ipe c16 H
   obtain ⟨H, c16b0, c16b1⟩ := H
   clear c16
   obtain rfl := Option.some.inj H
   have hnb17 := NB957_947.out
   have hnc17 := NB947_957.out
   obtain ⟨Z18_0, Z18_1, Z18_2, Z18_3, Z18_4, F18_0, F18_1, F18_2, F18_3, F18_4⟩ := cz5 BK957.out
   go_wp2
   go_ret
   exact ⟨az, bz HB.out⟩
  ·replace H := ine c16 H
   obtain ⟨H, c16b0, c16b1⟩ := H
   obtain rfl := Option.some.inj H
   go_wp2
   go_ret
   exact ⟨az, bz HB.out⟩
 ·replace H := ine c15 H
  obtain ⟨H, c15b0, c15b1⟩ := H
  (first | rw [c15b0] | (simp only [i64_w, i32_w]; rw [c15b0]) | skip)
  obtain rfl := Option.some.inj H
  go_wp2
  go_ret
  exact ⟨az, bz HB.out⟩
end Go.Proofs.YtgkemhgihbfmmaaGreatDoor.PA
end
section
namespace Go.Proofs.YtgkemhgihbfmmaaGreatDoor.PA
open Go.RowKit Go.Proofs.YtgkemhgihbfmmaaGreatDoorW.PrintWords Go.Proofs.YtgkemhgihbfmmaaGreatDoorW.PrintLast Go.Proofs.YtgkemhgihbfmmaaGreatDoorW.PrintMore
attribute [local go_sem] max2_int min2_int max_two min_two max_three min_three max_four min_four isSome_set str_gtr
set_option linter.unusedVariables false
set_option linter.unusedSimpArgs false
mutual
def soffitref01_Make.j0 : Nat → Int → Int → Bool → Option (Int × Int × Int)
 | 0, _, _, _ => none
 | k + 1, x0, x1, x19 => if x19 = true then (some (0, 0, 3)) else (soffitref01_Make.l0 k x0 x1)
def soffitref01_Make.l0 : Nat → Int → Int → Option (Int × Int × Int)
 | 0, _, _ => none
 | k + 1, x0, x1 => if x1 > 0 then (if (Int.tmod x0 10) = 0 then (soffitref01_Make.l0 k (wrap64 (Int.tdiv x0 10)) (wrap64 (x1 - 1))) else (some (x0, x1, 0))) else (some (x0, x1, 0))
end
def soffitref01_Make.f (k : Nat) (a0 : Int) (a1 : Int) : Option (Int × Int × Int) := if a1 < 0 then (soffitref01_Make.j0 k a0 a1 true) else (if a1 > 6 then (soffitref01_Make.j0 k a0 a1 true) else (if a0 > 999999999999 then (soffitref01_Make.j0 k a0 a1 true) else (soffitref01_Make.j0 k a0 a1 (decide (a0 < (-999999999999))))))
set_option maxHeartbeats 8000000 in
set_option maxRecDepth 100000 in
theorem soffitref01_Make.calls (k : Nat) (a0 : Int) (a1 : Int) (r1 : Int) (r2 : Int) (r3 : Int) (w : World) (h : soffitref01_Make.f k a0 a1 = some (r1, r2, r3)) :
  Calls Tryz.prog 55 #[.int .i64 a0, .int .i64 a1] w fun e w' => e = .returned (.tuple #[.agg #[.int .i64 r1, .int .i64 r2], .int .i64 r3]) ∧ Below w.heap.size w w' := by
 have hu23 := Tryz.underlying23
 have HB := Aside0.mk (Below.refl w.heap.size w)
 have H : (if a1 < 0 then (soffitref01_Make.j0 k a0 a1 true) else (if a1 > 6 then (soffitref01_Make.j0 k a0 a1 true) else (if a0 > 999999999999 then (soffitref01_Make.j0 k a0 a1 true) else (soffitref01_Make.j0 k a0 a1 (decide (a0 < (-999999999999))))))) = some (r1, r2, r3) := h
 clear h
 have HC3 := Aside0.mk H
 clear H
 go_enter Tryz.func55, Tryz.ntmps55
 go_upto_region 1 with (first | ((with_reducible refine gate_dst (N := 4) rfl ?_); refine bev (#[.int .i64 0, .int .i64 0]) 23 ?_; intro gb958 hg w4 hbox hb; have BK958 := Aside0.mk (hbox); have GW958 := gs hg HB; have GE958 := GW958; replace HB := sb HB hb; clear hb hbox hg))
 (try simp only [Act.put, List.setIfInBounds_toArray, List.set_cons_zero, List.set_cons_succ])
 go_cut [19] (fun v19 wc => ∃ (kq : Nat) (x19_2 : Bool), v19 = .bool x19_2 ∧ Aside0 (soffitref01_Make.j0 kq a0 a1 x19_2 = some (r1, r2, r3)) ∧ Aside0 (kq ≤ k) ∧ Aside0 (wc.heap[gb958]? = some (.cells #[.int .i64 0, .int .i64 0] 23 (0, 0))) ∧ Aside0 (Below w.heap.size w wc))
 case first =>
  have H := HC3.out
  clear HC3
  by_cases c5 : a1 < 0
  ·rw [if_pos c5] at H
   have c5b0 : decide (a1 < 0) = true := decide_eq_true c5
   clear c5
   (first | rw [c5b0] | (simp only [i64_w, i32_w]; rw [c5b0]) | skip)
   have H' := Aside0.mk H
   clear H
   go_wp2
   go_meet
   case rel => exact ⟨_, (true), sz, H', ⟨oz⟩, ⟨bk BK958.out⟩, ⟨bz HB.out⟩⟩
  ·rw [if_neg c5] at H
   have c5b0 : decide (a1 < 0) = false := decide_eq_false c5
   clear c5
   (first | rw [c5b0] | (simp only [i64_w, i32_w]; rw [c5b0]) | skip)
   by_cases c6 : a1 > 6
   ·rw [if_pos c6] at H
    have c6b0 : decide (6 < a1) = true := decide_eq_true c6
    clear c6
    have H' := Aside0.mk H
    clear H
    go_wp2
    go_meet
    case rel => exact ⟨_, (true), sz, H', ⟨oz⟩, ⟨bk BK958.out⟩, ⟨bz HB.out⟩⟩
   ·rw [if_neg c6] at H
    have c6b0 : decide (6 < a1) = false := decide_eq_false c6
    clear c6
    by_cases c7 : a0 > 999999999999
    ·rw [if_pos c7] at H
     have c7b0 : decide (999999999999 < a0) = true := decide_eq_true c7
     clear c7
     have H' := Aside0.mk H
     clear H
     go_wp2
     go_meet
     case rel => exact ⟨_, (true), sz, H', ⟨oz⟩, ⟨bk BK958.out⟩, ⟨bz HB.out⟩⟩
    ·rw [if_neg c7] at H
     have c7b0 : decide (999999999999 < a0) = false := decide_eq_false c7
     clear c7
     have H' := Aside0.mk H
     clear H
     go_wp2
     go_meet
     case rel => exact ⟨_, (decide (a0 < (-999999999999))), sz, H', ⟨oz⟩, ⟨bk BK958.out⟩, ⟨bz HB.out⟩⟩
 case rest =>
  clear HC3
  skip
  obtain ⟨kq, x19_2, rfl, HA, HJ2, BK958, HB⟩ := hcut
  cases kq with
  | zero => exact absurd HA.out (by simp [soffitref01_Make.j0])
  | succ kj2 =>
   have H := HA.out
   clear HA
   simp only [soffitref01_Make.j0] at H
   by_cases c8 : x19_2 = true
   ·subst c8
    have H1 : (some (0, 0, 3)) = some (r1, r2, r3) := by rw [if_pos rfl] at H; exact H
    clear H
    have H := H1
    clear H1
    simp only [Option.some.injEq, Prod.mk.injEq] at H
    obtain ⟨rfl, rfl, rfl⟩ := H
    obtain ⟨Z9_0, Z9_1, F9_0, F9_1⟩ := cz2 BK958.out
    go_wp2
    refine bodyPost_ret (results_ct rfl _ _ gb958 23 #[.int .i64 0, .int .i64 0] (0, 0) _ rfl (bp BK958.out) Tryz.underlying23 rfl (by kernel_rfl)) rfl ?_
    exact ⟨az, bz HB.out⟩
   ·replace c8 := Bool.eq_false_iff.mpr c8
    subst c8
    have H1 : (soffitref01_Make.l0 kj2 a0 a1) = some (r1, r2, r3) := by rw [if_neg (show ¬ (false = true) by decide)] at H; exact H
    clear H
    have H := H1
    clear H1
    have H' := Aside0.mk H
    clear H
    go_wp2
    (try simp only [Act.put, List.setIfInBounds_toArray, List.set_cons_succ, List.set_cons_zero])
    go_loopg [0, 1] kj2 (fun kq v0 v1 w' => ∃ (x0_2 : Int) (x1_2 : Int), v0 = .int .i64 x0_2 ∧ v1 = .int .i64 x1_2 ∧ Aside0 (soffitref01_Make.l0 kq x0_2 x1_2 = some (r1, r2, r3)) ∧ Aside0 (kq ≤ kj2) ∧ Aside0 (w'.heap[gb958]? = some (.cells #[.int .i64 0, .int .i64 0] 23 (0, 0))) ∧ Aside0 (Below w.heap.size w w'))
    case atStart => exact ⟨(a0), (a1), sz, sz, H', ⟨Nat.le_refl _⟩, ⟨bk BK958.out⟩, ⟨bz HB.out⟩⟩
    case round =>
     clear H'
     try clear c5; try clear c5b0; try clear c6; try clear c6b0; try clear c7; try clear c7b0; try clear c8; try clear Z9_0; try clear Z9_1; try clear F9_0; try clear F9_1
     obtain ⟨x0_2, x1_2, rfl, rfl, HA, HK2, BK958, HB⟩ := hrel
     cases gk with
     | zero => exact absurd HA.out (by simp [soffitref01_Make.l0])
     | succ k2 =>
      have H := HA.out
      clear HA
      simp only [soffitref01_Make.l0] at H
      by_cases c10 : x1_2 > 0
      ·rw [if_pos c10] at H
       have c10b0 : decide (0 < x1_2) = true := decide_eq_true c10
       clear c10
       by_cases c11 : (Int.tmod x0_2 10) = 0
       ·replace H := ipe c11 H
        obtain ⟨H, c11b0, c11b1⟩ := H
        clear c11
        have H' := Aside0.mk H
        clear H
        go_wp2
        go_roundg k2
        case measure => have := HJ2.out; have := HK2.out; omega
        case rel => exact ⟨(wrap64 (Int.tdiv x0_2 10)), (wrap64 (x1_2 - 1)), sz, sz, H', ⟨by have := HJ2.out; have := HK2.out; omega⟩, ⟨bk BK958.out⟩, ⟨bz HB.out⟩⟩
       ·replace H := ine c11 H
        obtain ⟨H, c11b0, c11b1⟩ := H
        simp only [Option.some.injEq, Prod.mk.injEq] at H
        obtain ⟨rfl, rfl, rfl⟩ := H
        obtain ⟨Z12_0, Z12_1, F12_0, F12_1⟩ := cz2 BK958.out
        go_wp2
        refine bodyPost_ret (results_ct rfl _ _ gb958 23 #[.int .i64 x0_2, .int .i64 x1_2] (0, 0) _ rfl (bp BK958.out) Tryz.underlying23 rfl (by kernel_rfl)) rfl ?_
        exact ⟨az, bz HB.out⟩
      ·rw [if_neg c10] at H
       have c10b0 : decide (0 < x1_2) = false := decide_eq_false c10
       clear c10
       simp only [Option.some.injEq, Prod.mk.injEq] at H
       obtain ⟨rfl, rfl, rfl⟩ := H
       obtain ⟨Z13_0, Z13_1, F13_0, F13_1⟩ := cz2 BK958.out
       go_wp2
       refine bodyPost_ret (results_ct rfl _ _ gb958 23 #[.int .i64 x0_2, .int .i64 x1_2] (0, 0) _ rfl (bp BK958.out) Tryz.underlying23 rfl (by kernel_rfl)) rfl ?_
       exact ⟨az, bz HB.out⟩
end Go.Proofs.YtgkemhgihbfmmaaGreatDoor.PA
end
section
namespace Go.Proofs.YtgkemhgihbfmmaaGreatDoor.PA
open Go.RowKit Go.Proofs.YtgkemhgihbfmmaaGreatDoorW.PrintWords Go.Proofs.YtgkemhgihbfmmaaGreatDoorW.PrintLast Go.Proofs.YtgkemhgihbfmmaaGreatDoorW.PrintMore
attribute [local go_sem] max2_int min2_int max_two min_two max_three min_three max_four min_four isSome_set str_gtr
set_option linter.unusedVariables false
set_option linter.unusedSimpArgs false
def soffitref01_Sound.f (k : Nat) (a0_0 : Int) (a0_1 : Int) : Option (Bool) := (soffitref01_Make.f k a0_0 a0_1).bind fun bt960 => (if bt960.2.2 = 0 then (if bt960.1 = a0_0 then (some (bt960.2.1 == a0_1)) else (some false)) else (some false))
set_option maxHeartbeats 8000000 in
set_option maxRecDepth 100000 in
theorem soffitref01_Sound.calls (k : Nat) (a0_0 : Int) (a0_1 : Int) (r : Bool) (w : World) (h : soffitref01_Sound.f k a0_0 a0_1 = some r) :
  Calls Tryz.prog 23 #[.agg #[.int .i64 a0_0, .int .i64 a0_1]] w fun e w' => e = .returned (.bool r) ∧ Below w.heap.size w w' := by
 have hu23 := Tryz.underlying23
 have HB := Aside0.mk (Below.refl w.heap.size w)
 have H : ((soffitref01_Make.f k a0_0 a0_1).bind fun bt960 => (if bt960.2.2 = 0 then (if bt960.1 = a0_0 then (some (bt960.2.1 == a0_1)) else (some false)) else (some false))) = some r := h
 clear h
 replace H := Option.bind_eq_some_iff.mp H
 obtain ⟨⟨t960, t961, t962⟩, A20, H⟩ := H
 replace H : (if t962 = 0 then (if t960 = a0_0 then (some (t961 == a0_1)) else (some false)) else (some false)) = some r := H
 have A2 := Aside0.mk A20
 clear A20
 have HC3 := Aside0.mk H
 clear H
 go_enter Tryz.func23, Tryz.ntmps23
 go_upto_region 2 with (first | ((with_reducible refine gate_dst (N := 1) rfl ?_); refine bev (#[.int .i64 a0_0, .int .i64 a0_1]) 23 ?_; intro gb959 hg w4 hbox hb; have BK959 := Aside0.mk (hbox); have GW959 := gs hg HB; have GE959 := GW959; replace HB := sb HB hb; clear hb hbox hg; obtain ⟨Z5_0, Z5_1, F5_0, F5_1⟩ := cz2 BK959.out) | ((with_reducible refine gate_callee (f := 55) rfl ?_); refine gl_ (some 10) Tryz.func55 (by kernel_rfl) #[.int .i64 a0_0, .int .i64 a0_1] rfl ?_; (with_reducible refine (soffitref01_Make.calls k a0_0 a0_1 t960 t961 t962 _ A2.out).mono ?_); rintro e w6 ⟨rfl, hb⟩; refine ⟨_, rfl, ?_⟩; replace BK959 := kb BK959 hb; replace HB := sb HB hb; clear hb) | ((with_reducible refine gate_dst (N := 3) rfl ?_); refine bev (#[.int .i64 0, .int .i64 0]) 23 ?_; intro gb963 hg w7 hbox hb; have BK963 := Aside0.mk (hbox); have GW963 := gs hg HB; have GE963 := GW963; replace HB := sb HB hb; have NB959_963 := na hg BK959; have NB963_959 := nb hg BK959; replace BK959 := kb BK959 hb; clear hb hbox hg; have hnb8 := NB963_959.out; have hnc8 := NB959_963.out; obtain ⟨Z9_0, Z9_1, F9_0, F9_1⟩ := cz2 BK963.out))
 (try simp only [Act.put, List.setIfInBounds_toArray, List.set_cons_zero, List.set_cons_succ])
 have H := HC3.out
 clear HC3
 clear Z5_0 Z5_1 F5_0 F5_1 Z9_0 Z9_1 F9_0 F9_1
 by_cases c10 : t962 = 0
 ·replace H := ipe c10 H
  obtain ⟨H, c10b0, c10b1⟩ := H
  clear c10
  (first | rw [c10b0] | (simp only [i64_w, i32_w]; rw [c10b0]) | skip)
  by_cases c11 : t960 = a0_0
  ·replace H := ipe c11 H
   obtain ⟨H, c11b0, c11b1⟩ := H
   clear c11
   obtain rfl := Option.some.inj H
   have hnb12 := NB963_959.out
   have hnc12 := NB959_963.out
   obtain ⟨Z13_0, Z13_1, F13_0, F13_1⟩ := cz2 BK963.out
   obtain ⟨Z14_0, Z14_1, F14_0, F14_1⟩ := cz2 BK959.out
   go_wp2
   go_ret
   exact ⟨az, bz HB.out⟩
  ·replace H := ine c11 H
   obtain ⟨H, c11b0, c11b1⟩ := H
   obtain rfl := Option.some.inj H
   have hnb15 := NB963_959.out
   have hnc15 := NB959_963.out
   obtain ⟨Z16_0, Z16_1, F16_0, F16_1⟩ := cz2 BK963.out
   obtain ⟨Z17_0, Z17_1, F17_0, F17_1⟩ := cz2 BK959.out
   go_wp2
   go_ret
   exact ⟨az, bz HB.out⟩
 ·replace H := ine c10 H
  obtain ⟨H, c10b0, c10b1⟩ := H
  (first | rw [c10b0] | (simp only [i64_w, i32_w]; rw [c10b0]) | skip)
  obtain rfl := Option.some.inj H
  go_wp2
  go_ret
  exact ⟨az, bz HB.out⟩
end Go.Proofs.YtgkemhgihbfmmaaGreatDoor.PA
end
section
namespace Go.Proofs.YtgkemhgihbfmmaaGreatDoor.PA
open Go.RowKit Go.Proofs.YtgkemhgihbfmmaaGreatDoorW.PrintWords Go.Proofs.YtgkemhgihbfmmaaGreatDoorW.PrintLast Go.Proofs.YtgkemhgihbfmmaaGreatDoorW.PrintMore
attribute [local go_sem] max2_int min2_int max_two min_two max_three min_three max_four min_four isSome_set str_gtr
set_option linter.unusedVariables false
set_option linter.unusedSimpArgs false
mutual
def soffitref04_good.l0 : Nat → ByteArray → Int → Option (Bool)
 | 0, _, _ => none
 | k + 1, x0, x3 => if x3 < (x0.size : Int) then (if 0 ≤ x3 then (if (wrap64 (bt x0 x3)) < 128 then (soffitref04_good.j3 k x0 x3 1 (wrap64 (bt x0 x3)) 0) else (if (wrap64 (bt x0 x3)) ≥ 192 then (soffitref04_good.j1 k x0 x3 (wrap64 (bt x0 x3)) (decide ((wrap64 (bt x0 x3)) < 224))) else (soffitref04_good.j1 k x0 x3 (wrap64 (bt x0 x3)) false))) else (none)) else (some true)
def soffitref04_good.j3 : Nat → ByteArray → Int → Int → Int → Int → Option (Bool)
 | 0, _, _, _, _, _ => none
 | k + 1, x0, x3, x5, x6, x7 => soffitref04_good.l1 k x0 x3 x5 x6 x7 1
def soffitref04_good.l1 : Nat → ByteArray → Int → Int → Int → Int → Int → Option (Bool)
 | 0, _, _, _, _, _, _ => none
 | k + 1, x0, x3, x5, x6, x7, x8 => if x8 < x5 then (if (wrap64 (x3 + x8)) ≥ (x0.size : Int) then (soffitref04_good.j5 k x0 x3 x5 x6 x7 x8 true) else (if 0 ≤ (wrap64 (x3 + x8)) then (if (wrap64 (x3 + x8)) < (x0.size : Int) then (if (bt x0 (wrap64 (x3 + x8))) < 128 then (soffitref04_good.j5 k x0 x3 x5 x6 x7 x8 true) else (soffitref04_good.j5 k x0 x3 x5 x6 x7 x8 (decide ((bt x0 (wrap64 (x3 + x8))) ≥ 192)))) else (none)) else (none))) else (if x6 < x7 then (soffitref04_good.j6 k x0 x3 x5 true) else (if x6 = 9 then (soffitref04_good.j6 k x0 x3 x5 (!true)) else (if x6 = 10 then (soffitref04_good.j6 k x0 x3 x5 (!true)) else (if x6 = 13 then (soffitref04_good.j6 k x0 x3 x5 (!true)) else (if x6 ≥ 32 then (if x6 ≤ 55295 then (soffitref04_good.j6 k x0 x3 x5 (!true)) else (if x6 ≥ 57344 then (if x6 ≤ 65533 then (soffitref04_good.j6 k x0 x3 x5 (!true)) else (if x6 ≥ 65536 then (soffitref04_good.j6 k x0 x3 x5 (!(decide (x6 ≤ 1114111)))) else (soffitref04_good.j6 k x0 x3 x5 (!false)))) else (if x6 ≥ 65536 then (soffitref04_good.j6 k x0 x3 x5 (!(decide (x6 ≤ 1114111)))) else (soffitref04_good.j6 k x0 x3 x5 (!false))))) else (if x6 ≥ 57344 then (if x6 ≤ 65533 then (soffitref04_good.j6 k x0 x3 x5 (!true)) else (if x6 ≥ 65536 then (soffitref04_good.j6 k x0 x3 x5 (!(decide (x6 ≤ 1114111)))) else (soffitref04_good.j6 k x0 x3 x5 (!false)))) else (if x6 ≥ 65536 then (soffitref04_good.j6 k x0 x3 x5 (!(decide (x6 ≤ 1114111)))) else (soffitref04_good.j6 k x0 x3 x5 (!false)))))))))
def soffitref04_good.j5 : Nat → ByteArray → Int → Int → Int → Int → Int → Bool → Option (Bool)
 | 0, _, _, _, _, _, _, _ => none
 | k + 1, x0, x3, x5, x6, x7, x8, x74 => if x74 = true then (some false) else (if 0 ≤ (wrap64 (x3 + x8)) then (if (wrap64 (x3 + x8)) < (x0.size : Int) then (soffitref04_good.l1 k x0 x3 x5 (wrap64 ((wrap64 ((wrap64 (x6 * 64)) + (wrap64 (bt x0 (wrap64 (x3 + x8)))))) - 128)) x7 (wrap64 (x8 + 1))) else (none)) else (none))
def soffitref04_good.j6 : Nat → ByteArray → Int → Int → Bool → Option (Bool)
 | 0, _, _, _, _ => none
 | k + 1, x0, x3, x5, x124 => if x124 = true then (some false) else (soffitref04_good.l0 k x0 (wrap64 (x3 + x5)))
def soffitref04_good.j1 : Nat → ByteArray → Int → Int → Bool → Option (Bool)
 | 0, _, _, _, _ => none
 | k + 1, x0, x3, x4, x21 => if x21 = true then (soffitref04_good.j3 k x0 x3 2 (wrap64 (x4 - 192)) 128) else (if x4 ≥ 224 then (soffitref04_good.j2 k x0 x3 x4 (decide (x4 < 240))) else (soffitref04_good.j2 k x0 x3 x4 false))
def soffitref04_good.j2 : Nat → ByteArray → Int → Int → Bool → Option (Bool)
 | 0, _, _, _, _ => none
 | k + 1, x0, x3, x4, x30 => if x30 = true then (soffitref04_good.j3 k x0 x3 3 (wrap64 (x4 - 224)) 2048) else (if x4 ≥ 240 then (if x4 < 248 then (soffitref04_good.j3 k x0 x3 4 (wrap64 (x4 - 240)) 65536) else (some false)) else (some false))
end
def soffitref04_good.f (k : Nat) (a0 : ByteArray) : Option (Bool) := soffitref04_good.l0 k a0 0
set_option maxHeartbeats 8000000 in
set_option maxRecDepth 100000 in
theorem soffitref04_good.calls (k : Nat) (a0 : ByteArray) (r : Bool) (w : World) (h : soffitref04_good.f k a0 = some r) :
  Calls Tryz.prog 42 #[.string a0] w fun e w' => e = .returned (.bool r) ∧ Drawn0 w w' := by
 have H : (soffitref04_good.l0 k a0 0) = some r := h
 clear h
 have H' := Aside0.mk H
 clear H
 go_enter Tryz.func42, Tryz.ntmps42
 go_wp2
 (try simp only [Act.put, List.setIfInBounds_toArray, List.set_cons_succ, List.set_cons_zero])
 go_loopg [3] k (fun kq v3 w' => ∃ (x3_1 : Int), v3 = .int .i64 x3_1 ∧ Aside0 (soffitref04_good.l0 kq a0 x3_1 = some r) ∧ Aside0 (kq ≤ k) ∧ Drawn0 w w')
 case atStart => exact ⟨(0), sz, H', ⟨Nat.le_refl _⟩, dz⟩
 case round =>
  clear H'
  obtain ⟨x3_1, rfl, HA, HK1, ⟨m1, rfl⟩⟩ := hrel
  cases gk with
  | zero => exact absurd HA.out (by simp [soffitref04_good.l0])
  | succ k1 =>
   have H := HA.out
   clear HA
   simp only [soffitref04_good.l0] at H
   by_cases c2 : x3_1 < (a0.size : Int)
   ·rw [if_pos c2] at H
    have c2b0 : decide (x3_1 < (a0.size : Int)) = true := decide_eq_true c2
    clear c2
    by_cases c3 : 0 ≤ x3_1
    ·rw [if_pos c3] at H
     have c3b0 : decide (0 ≤ x3_1) = true := decide_eq_true c3
     clear c3
     have HC5 := Aside0.mk H
     clear H
     have p4 : 0 ≤ (x3_1 : Int) := of_decide_eq_true tz
     have q4 : x3_1 < (a0.size : Int) := of_decide_eq_true tz
     have hx4 := bt_at a0 x3_1
     replace p4 := eq_true p4
     replace q4 := eq_true q4
     go_upto_block 2 with (fail)
     go_cut [5, 6, 7] (fun v5 v6 v7 wc => ∃ (kq : Nat) (x5_4 : Int) (x6_4 : Int) (x7_4 : Int), v5 = .int .i64 x5_4 ∧ v6 = .int .i64 x6_4 ∧ v7 = .int .i64 x7_4 ∧ Aside0 (soffitref04_good.j3 kq a0 x3_1 x5_4 x6_4 x7_4 = some r) ∧ Aside0 (kq ≤ k1) ∧ Drawn0 w wc)
     case first =>
      have H := HC5.out
      clear HC5
      by_cases c6 : (wrap64 (bt a0 x3_1)) < 128
      ·rw [if_pos c6] at H
       have c6b0 : decide ((wrap64 (bt a0 x3_1)) < 128) = true := decide_eq_true c6
       clear c6
       (first | rw [c6b0] | (simp only [i64_w, i32_w]; rw [c6b0]) | skip)
       have H' := Aside0.mk H
       clear H
       go_wp2
       go_meet
       case rel => exact ⟨_, (1), (wrap64 (bt a0 x3_1)), (0), sz, sz, sz, H', ⟨by have := HK1.out; first | omega | exact Nat.le_refl _⟩, dz⟩
      ·rw [if_neg c6] at H
       have c6b0 : decide ((wrap64 (bt a0 x3_1)) < 128) = false := decide_eq_false c6
       clear c6
       (first | rw [c6b0] | (simp only [i64_w, i32_w]; rw [c6b0]) | skip)
       have HC7 := Aside0.mk H
       clear H
       go_upto_region 7 with (fail)
       go_cut [21] (fun v21 wc => ∃ (kq : Nat) (x21_6 : Bool), v21 = .bool x21_6 ∧ Aside0 (soffitref04_good.j1 kq a0 x3_1 (wrap64 (bt a0 x3_1)) x21_6 = some r) ∧ Aside0 (kq ≤ k1) ∧ Drawn0 w wc)
       case first =>
        have H := HC7.out
        clear HC7
        by_cases c8 : (wrap64 (bt a0 x3_1)) ≥ 192
        ·rw [if_pos c8] at H
         have c8b0 : decide (192 ≤ (wrap64 (bt a0 x3_1))) = true := decide_eq_true c8
         clear c8
         (first | rw [c8b0] | (simp only [i64_w, i32_w]; rw [c8b0]) | skip)
         have H' := Aside0.mk H
         clear H
         go_wp2
         go_meet
         case rel => exact ⟨_, (decide ((wrap64 (bt a0 x3_1)) < 224)), sz, H', ⟨by have := HK1.out; first | omega | exact Nat.le_refl _⟩, dz⟩
        ·rw [if_neg c8] at H
         have c8b0 : decide (192 ≤ (wrap64 (bt a0 x3_1))) = false := decide_eq_false c8
         clear c8
         (first | rw [c8b0] | (simp only [i64_w, i32_w]; rw [c8b0]) | skip)
         have H' := Aside0.mk H
         clear H
         go_wp2
         go_meet
         case rel => exact ⟨_, (false), sz, H', ⟨by have := HK1.out; first | omega | exact Nat.le_refl _⟩, dz⟩
       case rest =>
        clear HC7
        try clear c2; try clear c2b0; try clear c3; try clear c3b0; try clear p4; try clear q4; try clear hx4; try clear c6; try clear c6b0; try clear p4; try clear q4
        obtain ⟨kq, x21_6, rfl, HA, HJ6, ⟨mc6, rfl⟩⟩ := hcut
        cases kq with
        | zero => exact absurd HA.out (by simp [soffitref04_good.j1])
        | succ kj6 =>
         have H := HA.out
         clear HA
         simp only [soffitref04_good.j1] at H
         by_cases c9 : x21_6 = true
         ·subst c9
          have H1 : (soffitref04_good.j3 kj6 a0 x3_1 2 (wrap64 ((wrap64 (bt a0 x3_1)) - 192)) 128) = some r := by rw [if_pos rfl] at H; exact H
          clear H
          have H := H1
          clear H1
          have H' := Aside0.mk H
          clear H
          go_wp2
          go_meet
          case rel => exact ⟨_, (2), (wrap64 ((wrap64 (bt a0 x3_1)) - 192)), (128), sz, sz, sz, H', ⟨by have := HK1.out; have := HJ6.out; first | omega | exact Nat.le_refl _⟩, dz⟩
         ·replace c9 := Bool.eq_false_iff.mpr c9
          subst c9
          have H1 : (if (wrap64 (bt a0 x3_1)) ≥ 224 then (soffitref04_good.j2 kj6 a0 x3_1 (wrap64 (bt a0 x3_1)) (decide ((wrap64 (bt a0 x3_1)) < 240))) else (soffitref04_good.j2 kj6 a0 x3_1 (wrap64 (bt a0 x3_1)) false)) = some r := by rw [if_neg (show ¬ (false = true) by decide)] at H; exact H
          clear H
          have H := H1
          clear H1
          have HC10 := Aside0.mk H
          clear H
          go_upto_region 9 with (fail)
          go_cut [30] (fun v30 wc => ∃ (kq : Nat) (x30_9 : Bool), v30 = .bool x30_9 ∧ Aside0 (soffitref04_good.j2 kq a0 x3_1 (wrap64 (bt a0 x3_1)) x30_9 = some r) ∧ Aside0 (kq ≤ kj6) ∧ Drawn0 w wc)
          case first =>
           have H := HC10.out
           clear HC10
           by_cases c11 : (wrap64 (bt a0 x3_1)) ≥ 224
           ·rw [if_pos c11] at H
            have c11b0 : decide (224 ≤ (wrap64 (bt a0 x3_1))) = true := decide_eq_true c11
            clear c11
            (first | rw [c11b0] | (simp only [i64_w, i32_w]; rw [c11b0]) | skip)
            have H' := Aside0.mk H
            clear H
            go_wp2
            go_meet
            case rel => exact ⟨_, (decide ((wrap64 (bt a0 x3_1)) < 240)), sz, H', ⟨by have := HK1.out; have := HJ6.out; first | omega | exact Nat.le_refl _⟩, dz⟩
           ·rw [if_neg c11] at H
            have c11b0 : decide (224 ≤ (wrap64 (bt a0 x3_1))) = false := decide_eq_false c11
            clear c11
            (first | rw [c11b0] | (simp only [i64_w, i32_w]; rw [c11b0]) | skip)
            have H' := Aside0.mk H
            clear H
            go_wp2
            go_meet
            case rel => exact ⟨_, (false), sz, H', ⟨by have := HK1.out; have := HJ6.out; first | omega | exact Nat.le_refl _⟩, dz⟩
          case rest =>
           clear HC10
           try clear c2; try clear c2b0; try clear c3; try clear c3b0; try clear p4; try clear q4; try clear hx4; try clear c6; try clear c6b0; try clear c8; try clear c8b0; try clear c9; try clear p4; try clear q4
           obtain ⟨kq, x30_9, rfl, HA, HJ9, ⟨mc9, rfl⟩⟩ := hcut
           cases kq with
           | zero => exact absurd HA.out (by simp [soffitref04_good.j2])
           | succ kj9 =>
            have H := HA.out
            clear HA
            simp only [soffitref04_good.j2] at H
            by_cases c12 : x30_9 = true
            ·subst c12
             have H1 : (soffitref04_good.j3 kj9 a0 x3_1 3 (wrap64 ((wrap64 (bt a0 x3_1)) - 224)) 2048) = some r := by rw [if_pos rfl] at H; exact H
             clear H
             have H := H1
             clear H1
             have H' := Aside0.mk H
             clear H
             go_wp2
             go_meet
             case rel => exact ⟨_, (3), (wrap64 ((wrap64 (bt a0 x3_1)) - 224)), (2048), sz, sz, sz, H', ⟨by have := HK1.out; have := HJ6.out; have := HJ9.out; first | omega | exact Nat.le_refl _⟩, dz⟩
            ·replace c12 := Bool.eq_false_iff.mpr c12
             subst c12
             have H1 : (if (wrap64 (bt a0 x3_1)) ≥ 240 then (if (wrap64 (bt a0 x3_1)) < 248 then (soffitref04_good.j3 kj9 a0 x3_1 4 (wrap64 ((wrap64 (bt a0 x3_1)) - 240)) 65536) else (some false)) else (some false)) = some r := by rw [if_neg (show ¬ (false = true) by decide)] at H; exact H
             clear H
             have H := H1
             clear H1
             by_cases c13 : (wrap64 (bt a0 x3_1)) ≥ 240
             ·rw [if_pos c13] at H
              have c13b0 : decide (240 ≤ (wrap64 (bt a0 x3_1))) = true := decide_eq_true c13
              clear c13
              by_cases c14 : (wrap64 (bt a0 x3_1)) < 248
              ·rw [if_pos c14] at H
               have c14b0 : decide ((wrap64 (bt a0 x3_1)) < 248) = true := decide_eq_true c14
               clear c14
               have H' := Aside0.mk H
               clear H
               go_wp2
               go_meet
               case rel => exact ⟨_, (4), (wrap64 ((wrap64 (bt a0 x3_1)) - 240)), (65536), sz, sz, sz, H', ⟨by have := HK1.out; have := HJ6.out; have := HJ9.out; first | omega | exact Nat.le_refl _⟩, dz⟩
              ·rw [if_neg c14] at H
               have c14b0 : decide ((wrap64 (bt a0 x3_1)) < 248) = false := decide_eq_false c14
               clear c14
               obtain rfl := Option.some.inj H
               go_wp2
               go_ret
               exact ⟨sz, dz⟩
             ·rw [if_neg c13] at H
              have c13b0 : decide (240 ≤ (wrap64 (bt a0 x3_1))) = false := decide_eq_false c13
              clear c13
              obtain rfl := Option.some.inj H
              go_wp2
              go_ret
              exact ⟨sz, dz⟩
     case rest =>
      clear HC5
      try clear c2; try clear c2b0; try clear c3; try clear c3b0; try clear p4; try clear q4; try clear hx4; try clear p4; try clear q4
      obtain ⟨kq, x5_4, x6_4, x7_4, rfl, rfl, rfl, HA, HJ4, ⟨mc4, rfl⟩⟩ := hcut
      cases kq with
      | zero => exact absurd HA.out (by simp [soffitref04_good.j3])
      | succ kj4 =>
       have H := HA.out
       clear HA
       simp only [soffitref04_good.j3] at H
       have H' := Aside0.mk H
       clear H
       go_wp2
       (try simp only [Act.put, List.setIfInBounds_toArray, List.set_cons_succ, List.set_cons_zero])
       go_loopg [6, 8] kj4 (fun kq v6 v8 w' => ∃ (x6_3 : Int) (x8_3 : Int), v6 = .int .i64 x6_3 ∧ v8 = .int .i64 x8_3 ∧ Aside0 (soffitref04_good.l1 kq a0 x3_1 x5_4 x6_3 x7_4 x8_3 = some r) ∧ Aside0 (kq ≤ kj4) ∧ Drawn0 w w')
       case atStart => exact ⟨(x6_4), (1), sz, sz, H', ⟨Nat.le_refl _⟩, dz⟩
       case round =>
        clear H'
        try clear c2; try clear c2b0; try clear c3; try clear c3b0; try clear p4; try clear q4; try clear hx4; try clear c6; try clear c6b0; try clear c8; try clear c8b0; try clear c9; try clear c11; try clear c11b0; try clear c12; try clear c13; try clear c13b0; try clear c14; try clear c14b0; try clear p4; try clear q4
        obtain ⟨x6_3, x8_3, rfl, rfl, HA, HK3, ⟨m3, rfl⟩⟩ := hrel
        cases gk with
        | zero => exact absurd HA.out (by simp [soffitref04_good.l1])
        | succ k3 =>
         have H := HA.out
         clear HA
         simp only [soffitref04_good.l1] at H
         by_cases c15 : x8_3 < x5_4
         ·rw [if_pos c15] at H
          have c15b0 : decide (x8_3 < x5_4) = true := decide_eq_true c15
          clear c15
          have HC16 := Aside0.mk H
          clear H
          go_upto_region 16 with (fail)
          go_cut [74] (fun v74 wc => ∃ (kq : Nat) (x74_15 : Bool), v74 = .bool x74_15 ∧ Aside0 (soffitref04_good.j5 kq a0 x3_1 x5_4 x6_3 x7_4 x8_3 x74_15 = some r) ∧ Aside0 (kq ≤ k3) ∧ Drawn0 w wc)
          case first =>
           have H := HC16.out
           clear HC16
           by_cases c17 : (wrap64 (x3_1 + x8_3)) ≥ (a0.size : Int)
           ·rw [if_pos c17] at H
            have c17b0 : decide ((a0.size : Int) ≤ (wrap64 (x3_1 + x8_3))) = true := decide_eq_true c17
            clear c17
            (first | rw [c17b0] | (simp only [i64_w, i32_w]; rw [c17b0]) | skip)
            have H' := Aside0.mk H
            clear H
            go_wp2
            go_meet
            case rel => exact ⟨_, (true), sz, H', ⟨by have := HK1.out; have := HJ4.out; have := HK3.out; first | omega | exact Nat.le_refl _⟩, dz⟩
           ·rw [if_neg c17] at H
            have c17b0 : decide ((a0.size : Int) ≤ (wrap64 (x3_1 + x8_3))) = false := decide_eq_false c17
            clear c17
            (first | rw [c17b0] | (simp only [i64_w, i32_w]; rw [c17b0]) | skip)
            obtain ⟨ji18, hji18⟩ : ∃ j_ : Int, (wrap64 (x3_1 + x8_3)) = j_ := ⟨_, rfl⟩
            replace H : (if 0 ≤ (ji18) then (if (ji18) < (a0.size : Int) then (if (bt a0 (ji18)) < 128 then (soffitref04_good.j5 k3 a0 x3_1 x5_4 x6_3 x7_4 x8_3 true) else (soffitref04_good.j5 k3 a0 x3_1 x5_4 x6_3 x7_4 x8_3 (decide ((bt a0 (ji18)) ≥ 192)))) else (none)) else (none)) = some r := by first | (rw [hji18] at H; exact H) | (simp only [hji18] at H ⊢; exact H)
            (try rw [hji18] at c17b0)
            have hji18w : (IntKind.i64.wrap (x3_1 + x8_3)) = ji18 := (i64_w _).trans hji18
            by_cases c19 : 0 ≤ (ji18)
            ·rw [if_pos c19] at H
             have c19b0 : decide (0 ≤ (ji18)) = true := decide_eq_true c19
             clear c19
             by_cases c20 : (ji18) < (a0.size : Int)
             ·rw [if_pos c20] at H
              have c20b0 : decide ((ji18) < (a0.size : Int)) = true := decide_eq_true c20
              clear c20
              by_cases c22 : (bt a0 (ji18)) < 128
              ·rw [if_pos c22] at H
               have c22b0 : decide ((bt a0 (ji18)) < 128) = true := decide_eq_true c22
               clear c22
               have H' := Aside0.mk H
               clear H
               have p21 : 0 ≤ ((ji18) : Int) := of_decide_eq_true tz
               have q21 : (ji18) < (a0.size : Int) := of_decide_eq_true tz
               have hx21 := bt_at a0 (ji18)
               replace p21 := eq_true p21
               replace q21 := eq_true q21
               go_wp2
               go_meet
               case rel => exact ⟨_, (true), sz, H', ⟨by have := HK1.out; have := HJ4.out; have := HK3.out; first | omega | exact Nat.le_refl _⟩, dz⟩
              ·rw [if_neg c22] at H
               have c22b0 : decide ((bt a0 (ji18)) < 128) = false := decide_eq_false c22
               clear c22
               have H' := Aside0.mk H
               clear H
               have p21 : 0 ≤ ((ji18) : Int) := of_decide_eq_true tz
               have q21 : (ji18) < (a0.size : Int) := of_decide_eq_true tz
               have hx21 := bt_at a0 (ji18)
               replace p21 := eq_true p21
               replace q21 := eq_true q21
               have p23 : 0 ≤ ((ji18) : Int) := of_decide_eq_true tz
               have q23 : (ji18) < (a0.size : Int) := of_decide_eq_true tz
               have hx23 := bt_at a0 (ji18)
               replace p23 := eq_true p23
               replace q23 := eq_true q23
               go_wp2
               go_meet
               case rel => exact ⟨_, (decide ((bt a0 (ji18)) ≥ 192)), (by first | rfl | (simp; done) | (simp only [← hji18] <;> (first | rfl | simp)) | (simp [*]; done)), H', ⟨by have := HK1.out; have := HJ4.out; have := HK3.out; first | omega | exact Nat.le_refl _⟩, dz⟩
             ·rw [if_neg c20] at H
              exact absurd H (by simp)
            ·rw [if_neg c19] at H
             exact absurd H (by simp)
          case rest =>
           clear HC16
           try clear c2; try clear c2b0; try clear c3; try clear c3b0; try clear p4; try clear q4; try clear hx4; try clear c6; try clear c6b0; try clear c8; try clear c8b0; try clear c9; try clear c11; try clear c11b0; try clear c12; try clear c13; try clear c13b0; try clear c14; try clear c14b0; try clear c15; try clear c15b0; try clear p4; try clear q4
           obtain ⟨kq, x74_15, rfl, HA, HJ15, ⟨mc15, rfl⟩⟩ := hcut
           cases kq with
           | zero => exact absurd HA.out (by simp [soffitref04_good.j5])
           | succ kj15 =>
            have H := HA.out
            clear HA
            simp only [soffitref04_good.j5] at H
            by_cases c24 : x74_15 = true
            ·subst c24
             have H1 : (some false) = some r := by rw [if_pos rfl] at H; exact H
             clear H
             have H := H1
             clear H1
             obtain rfl := Option.some.inj H
             go_wp2
             go_ret
             exact ⟨sz, dz⟩
            ·replace c24 := Bool.eq_false_iff.mpr c24
             subst c24
             have H1 : (if 0 ≤ (wrap64 (x3_1 + x8_3)) then (if (wrap64 (x3_1 + x8_3)) < (a0.size : Int) then (soffitref04_good.l1 kj15 a0 x3_1 x5_4 (wrap64 ((wrap64 ((wrap64 (x6_3 * 64)) + (wrap64 (bt a0 (wrap64 (x3_1 + x8_3)))))) - 128)) x7_4 (wrap64 (x8_3 + 1))) else (none)) else (none)) = some r := by rw [if_neg (show ¬ (false = true) by decide)] at H; exact H
             clear H
             have H := H1
             clear H1
             obtain ⟨ji25, hji25⟩ : ∃ j_ : Int, (wrap64 (x3_1 + x8_3)) = j_ := ⟨_, rfl⟩
             replace H : (if 0 ≤ (ji25) then (if (ji25) < (a0.size : Int) then (soffitref04_good.l1 kj15 a0 x3_1 x5_4 (wrap64 ((wrap64 ((wrap64 (x6_3 * 64)) + (wrap64 (bt a0 (ji25))))) - 128)) x7_4 (wrap64 (x8_3 + 1))) else (none)) else (none)) = some r := by first | (rw [hji25] at H; exact H) | (simp only [hji25] at H ⊢; exact H)
             have hji25w : (IntKind.i64.wrap (x3_1 + x8_3)) = ji25 := (i64_w _).trans hji25
             by_cases c26 : 0 ≤ (ji25)
             ·rw [if_pos c26] at H
              have c26b0 : decide (0 ≤ (ji25)) = true := decide_eq_true c26
              clear c26
              by_cases c27 : (ji25) < (a0.size : Int)
              ·rw [if_pos c27] at H
               have c27b0 : decide ((ji25) < (a0.size : Int)) = true := decide_eq_true c27
               clear c27
               have H' := Aside0.mk H
               clear H
               have p28 : 0 ≤ ((ji25) : Int) := of_decide_eq_true tz
               have q28 : (ji25) < (a0.size : Int) := of_decide_eq_true tz
               have hx28 := bt_at a0 (ji25)
               replace p28 := eq_true p28
               replace q28 := eq_true q28
               go_wp2
               go_roundg kj15
               case measure => have := HK1.out; have := HJ4.out; have := HK3.out; have := HJ15.out; omega
               case rel => exact ⟨(wrap64 ((wrap64 ((wrap64 (x6_3 * 64)) + (wrap64 (bt a0 (ji25))))) - 128)), (wrap64 (x8_3 + 1)), (by first | rfl | (simp; done) | (simp only [← hji25] <;> (first | rfl | simp)) | (simp [*]; done)), sz, H', ⟨by have := HK1.out; have := HJ4.out; have := HK3.out; have := HJ15.out; omega⟩, dz⟩
              ·rw [if_neg c27] at H
               exact absurd H (by simp)
             ·rw [if_neg c26] at H
              exact absurd H (by simp)
         ·rw [if_neg c15] at H
          have c15b0 : decide (x8_3 < x5_4) = false := decide_eq_false c15
          clear c15
          have HC29 := Aside0.mk H
          clear H
          go_upto_region 19 with (fail)
          go_cut [124] (fun v124 wc => ∃ (kq : Nat) (x124_28 : Bool), v124 = .bool x124_28 ∧ Aside0 (soffitref04_good.j6 kq a0 x3_1 x5_4 x124_28 = some r) ∧ Aside0 (kq ≤ k3) ∧ Drawn0 w wc)
          case first =>
           have H := HC29.out
           clear HC29
           by_cases c30 : x6_3 < x7_4
           ·rw [if_pos c30] at H
            have c30b0 : decide (x6_3 < x7_4) = true := decide_eq_true c30
            clear c30
            (first | rw [c30b0] | (simp only [i64_w, i32_w]; rw [c30b0]) | skip)
            have H' := Aside0.mk H
            clear H
            go_wp2
            go_meet
            case rel => exact ⟨_, (true), sz, H', ⟨by have := HK1.out; have := HJ4.out; have := HK3.out; first | omega | exact Nat.le_refl _⟩, dz⟩
           ·rw [if_neg c30] at H
            have c30b0 : decide (x6_3 < x7_4) = false := decide_eq_false c30
            clear c30
            (first | rw [c30b0] | (simp only [i64_w, i32_w]; rw [c30b0]) | skip)
            by_cases c31 : x6_3 = 9
            ·replace H := ipe c31 H
             obtain ⟨H, c31b0, c31b1⟩ := H
             clear c31
             have H' := Aside0.mk H
             clear H
             go_wp2
             go_meet
             case rel => exact ⟨_, (!true), sz, H', ⟨by have := HK1.out; have := HJ4.out; have := HK3.out; first | omega | exact Nat.le_refl _⟩, dz⟩
            ·replace H := ine c31 H
             obtain ⟨H, c31b0, c31b1⟩ := H
             by_cases c32 : x6_3 = 10
             ·replace H := ipe c32 H
              obtain ⟨H, c32b0, c32b1⟩ := H
              clear c32
              have H' := Aside0.mk H
              clear H
              go_wp2
              go_meet
              case rel => exact ⟨_, (!true), sz, H', ⟨by have := HK1.out; have := HJ4.out; have := HK3.out; first | omega | exact Nat.le_refl _⟩, dz⟩
             ·replace H := ine c32 H
              obtain ⟨H, c32b0, c32b1⟩ := H
              by_cases c33 : x6_3 = 13
              ·replace H := ipe c33 H
               obtain ⟨H, c33b0, c33b1⟩ := H
               clear c33
               have H' := Aside0.mk H
               clear H
               go_wp2
               go_meet
               case rel => exact ⟨_, (!true), sz, H', ⟨by have := HK1.out; have := HJ4.out; have := HK3.out; first | omega | exact Nat.le_refl _⟩, dz⟩
              ·replace H := ine c33 H
               obtain ⟨H, c33b0, c33b1⟩ := H
               by_cases c34 : x6_3 ≥ 32
               ·rw [if_pos c34] at H
                have c34b0 : decide (32 ≤ x6_3) = true := decide_eq_true c34
                clear c34
                by_cases c35 : x6_3 ≤ 55295
                ·rw [if_pos c35] at H
                 have c35b0 : decide (x6_3 ≤ 55295) = true := decide_eq_true c35
                 clear c35
                 have H' := Aside0.mk H
                 clear H
                 go_wp2
                 go_meet
                 case rel => exact ⟨_, (!true), sz, H', ⟨by have := HK1.out; have := HJ4.out; have := HK3.out; first | omega | exact Nat.le_refl _⟩, dz⟩
                ·rw [if_neg c35] at H
                 have c35b0 : decide (x6_3 ≤ 55295) = false := decide_eq_false c35
                 clear c35
                 by_cases c36 : x6_3 ≥ 57344
                 ·rw [if_pos c36] at H
                  have c36b0 : decide (57344 ≤ x6_3) = true := decide_eq_true c36
                  clear c36
                  by_cases c37 : x6_3 ≤ 65533
                  ·rw [if_pos c37] at H
                   have c37b0 : decide (x6_3 ≤ 65533) = true := decide_eq_true c37
                   clear c37
                   have H' := Aside0.mk H
                   clear H
                   go_wp2
                   go_meet
                   case rel => exact ⟨_, (!true), sz, H', ⟨by have := HK1.out; have := HJ4.out; have := HK3.out; first | omega | exact Nat.le_refl _⟩, dz⟩
                  ·rw [if_neg c37] at H
                   have c37b0 : decide (x6_3 ≤ 65533) = false := decide_eq_false c37
                   clear c37
                   by_cases c38 : x6_3 ≥ 65536
                   ·rw [if_pos c38] at H
                    have c38b0 : decide (65536 ≤ x6_3) = true := decide_eq_true c38
                    clear c38
                    have H' := Aside0.mk H
                    clear H
                    go_wp2
                    go_meet
                    case rel => exact ⟨_, (!(decide (x6_3 ≤ 1114111))), sz, H', ⟨by have := HK1.out; have := HJ4.out; have := HK3.out; first | omega | exact Nat.le_refl _⟩, dz⟩
                   ·rw [if_neg c38] at H
                    have c38b0 : decide (65536 ≤ x6_3) = false := decide_eq_false c38
                    clear c38
                    have H' := Aside0.mk H
                    clear H
                    go_wp2
                    go_meet
                    case rel => exact ⟨_, (!false), sz, H', ⟨by have := HK1.out; have := HJ4.out; have := HK3.out; first | omega | exact Nat.le_refl _⟩, dz⟩
                 ·rw [if_neg c36] at H
                  have c36b0 : decide (57344 ≤ x6_3) = false := decide_eq_false c36
                  clear c36
                  by_cases c39 : x6_3 ≥ 65536
                  ·rw [if_pos c39] at H
                   have c39b0 : decide (65536 ≤ x6_3) = true := decide_eq_true c39
                   clear c39
                   have H' := Aside0.mk H
                   clear H
                   go_wp2
                   go_meet
                   case rel => exact ⟨_, (!(decide (x6_3 ≤ 1114111))), sz, H', ⟨by have := HK1.out; have := HJ4.out; have := HK3.out; first | omega | exact Nat.le_refl _⟩, dz⟩
                  ·rw [if_neg c39] at H
                   have c39b0 : decide (65536 ≤ x6_3) = false := decide_eq_false c39
                   clear c39
                   have H' := Aside0.mk H
                   clear H
                   go_wp2
                   go_meet
                   case rel => exact ⟨_, (!false), sz, H', ⟨by have := HK1.out; have := HJ4.out; have := HK3.out; first | omega | exact Nat.le_refl _⟩, dz⟩
               ·rw [if_neg c34] at H
                have c34b0 : decide (32 ≤ x6_3) = false := decide_eq_false c34
                clear c34
                by_cases c40 : x6_3 ≥ 57344
                ·rw [if_pos c40] at H
                 have c40b0 : decide (57344 ≤ x6_3) = true := decide_eq_true c40
                 clear c40
                 by_cases c41 : x6_3 ≤ 65533
                 ·rw [if_pos c41] at H
                  have c41b0 : decide (x6_3 ≤ 65533) = true := decide_eq_true c41
                  clear c41
                  have H' := Aside0.mk H
                  clear H
                  go_wp2
                  go_meet
                  case rel => exact ⟨_, (!true), sz, H', ⟨by have := HK1.out; have := HJ4.out; have := HK3.out; first | omega | exact Nat.le_refl _⟩, dz⟩
                 ·rw [if_neg c41] at H
                  have c41b0 : decide (x6_3 ≤ 65533) = false := decide_eq_false c41
                  clear c41
                  by_cases c42 : x6_3 ≥ 65536
                  ·rw [if_pos c42] at H
                   have c42b0 : decide (65536 ≤ x6_3) = true := decide_eq_true c42
                   clear c42
                   have H' := Aside0.mk H
                   clear H
                   go_wp2
                   go_meet
                   case rel => exact ⟨_, (!(decide (x6_3 ≤ 1114111))), sz, H', ⟨by have := HK1.out; have := HJ4.out; have := HK3.out; first | omega | exact Nat.le_refl _⟩, dz⟩
                  ·rw [if_neg c42] at H
                   have c42b0 : decide (65536 ≤ x6_3) = false := decide_eq_false c42
                   clear c42
                   have H' := Aside0.mk H
                   clear H
                   go_wp2
                   go_meet
                   case rel => exact ⟨_, (!false), sz, H', ⟨by have := HK1.out; have := HJ4.out; have := HK3.out; first | omega | exact Nat.le_refl _⟩, dz⟩
                ·rw [if_neg c40] at H
                 have c40b0 : decide (57344 ≤ x6_3) = false := decide_eq_false c40
                 clear c40
                 by_cases c43 : x6_3 ≥ 65536
                 ·rw [if_pos c43] at H
                  have c43b0 : decide (65536 ≤ x6_3) = true := decide_eq_true c43
                  clear c43
                  have H' := Aside0.mk H
                  clear H
                  go_wp2
                  go_meet
                  case rel => exact ⟨_, (!(decide (x6_3 ≤ 1114111))), sz, H', ⟨by have := HK1.out; have := HJ4.out; have := HK3.out; first | omega | exact Nat.le_refl _⟩, dz⟩
                 ·rw [if_neg c43] at H
                  have c43b0 : decide (65536 ≤ x6_3) = false := decide_eq_false c43
                  clear c43
                  have H' := Aside0.mk H
                  clear H
                  go_wp2
                  go_meet
                  case rel => exact ⟨_, (!false), sz, H', ⟨by have := HK1.out; have := HJ4.out; have := HK3.out; first | omega | exact Nat.le_refl _⟩, dz⟩
          case rest =>
           clear HC29
           try clear c2; try clear c2b0; try clear c3; try clear c3b0; try clear p4; try clear q4; try clear hx4; try clear c6; try clear c6b0; try clear c8; try clear c8b0; try clear c9; try clear c11; try clear c11b0; try clear c12; try clear c13; try clear c13b0; try clear c14; try clear c14b0; try clear c15; try clear c15b0; try clear c17; try clear c17b0; try clear c19; try clear c19b0; try clear c20; try clear c20b0; try clear p21; try clear q21; try clear hx21; try clear c22; try clear c22b0; try clear p23; try clear q23; try clear hx23; try clear c24; try clear c26; try clear c26b0; try clear c27; try clear c27b0; try clear p28; try clear q28; try clear hx28; try clear p21; try clear p23; try clear p28; try clear p4; try clear q21; try clear q23; try clear q28; try clear q4
           obtain ⟨kq, x124_28, rfl, HA, HJ28, ⟨mc28, rfl⟩⟩ := hcut
           cases kq with
           | zero => exact absurd HA.out (by simp [soffitref04_good.j6])
           | succ kj28 =>
            have H := HA.out
            clear HA
            simp only [soffitref04_good.j6] at H
            by_cases c44 : x124_28 = true
            ·subst c44
             have H1 : (some false) = some r := by rw [if_pos rfl] at H; exact H
             clear H
             have H := H1
             clear H1
             obtain rfl := Option.some.inj H
             go_wp2
             go_ret
             exact ⟨sz, dz⟩
            ·replace c44 := Bool.eq_false_iff.mpr c44
             subst c44
             have H1 : (soffitref04_good.l0 kj28 a0 (wrap64 (x3_1 + x5_4))) = some r := by rw [if_neg (show ¬ (false = true) by decide)] at H; exact H
             clear H
             have H := H1
             clear H1
             have H' := Aside0.mk H
             clear H
             go_wp2
             go_roundg kj28
             case measure => have := HK1.out; have := HJ4.out; have := HK3.out; have := HJ28.out; omega
             case rel => exact ⟨(wrap64 (x3_1 + x5_4)), sz, H', ⟨by have := HK1.out; have := HJ4.out; have := HK3.out; have := HJ28.out; omega⟩, dz⟩
    ·rw [if_neg c3] at H
     exact absurd H (by simp)
   ·rw [if_neg c2] at H
    have c2b0 : decide (x3_1 < (a0.size : Int)) = false := decide_eq_false c2
    clear c2
    obtain rfl := Option.some.inj H
    go_wp2
    go_ret
    exact ⟨sz, dz⟩
end Go.Proofs.YtgkemhgihbfmmaaGreatDoor.PA
end
section
namespace Go.Proofs.YtgkemhgihbfmmaaGreatDoor.PA
open Go.RowKit Go.Proofs.YtgkemhgihbfmmaaGreatDoorW.PrintWords Go.Proofs.YtgkemhgihbfmmaaGreatDoorW.PrintLast Go.Proofs.YtgkemhgihbfmmaaGreatDoorW.PrintMore
attribute [local go_sem] max2_int min2_int max_two min_two max_three min_three max_four min_four isSome_set str_gtr
set_option linter.unusedVariables false
set_option linter.unusedSimpArgs false
def soffitref04_Sound.j0 : Nat → Bool → Int → Int → Int → ByteArray → Int → Option (Bool)
 | 0, _, _, _, _, _, _ => none
 | k + 1, x3, x965000, x965001, x965002, x965003, x965004 => if x965000 = 0 then (if x3 = true then (if x965003.toList = ([] : List UInt8) then (some (x965004 == 0)) else (some false)) else (some false)) else (if x965000 = 1 then ((soffitref01_Sound.f k x965001 x965002).bind fun t965 => (if t965 = true then (if x965003.toList = ([] : List UInt8) then (some (x965004 == 0)) else (some false)) else (some false))) else (if x965000 = 2 then (if x3 = true then (if x965004 = 0 then (if (x965003.size : Int) ≤ 256 then ((soffitref04_good.f k x965003).bind fun t966 => (some t966)) else (some false)) else (some false)) else (some false)) else (if x965000 = 3 then (if x3 = true then (if x965003.toList = ([] : List UInt8) then (if x965004 = 0 then (some true) else (some (x965004 == 1))) else (some false)) else (some false)) else (if x965000 = 4 then (if x3 = true then (if x965003.toList = ([] : List UInt8) then (if x965004 ≥ 0 then (some (decide (x965004 ≤ 3652058))) else (some false)) else (some false)) else (some false)) else (some false)))))
def soffitref04_Sound.f (k : Nat) (a0_0 : Int) (a0_1 : Int) (a0_2 : Int) (a0_3 : ByteArray) (a0_4 : Int) : Option (Bool) := if a0_1 = 0 then (soffitref04_Sound.j0 k (a0_2 == 0) a0_0 a0_1 a0_2 a0_3 a0_4) else (soffitref04_Sound.j0 k false a0_0 a0_1 a0_2 a0_3 a0_4)
set_option maxHeartbeats 8000000 in
set_option maxRecDepth 100000 in
theorem soffitref04_Sound.calls (k : Nat) (a0_0 : Int) (a0_1 : Int) (a0_2 : Int) (a0_3 : ByteArray) (a0_4 : Int) (r : Bool) (w : World) (h : soffitref04_Sound.f k a0_0 a0_1 a0_2 a0_3 a0_4 = some r) :
  Calls Tryz.prog 15 #[.agg #[.int .i64 a0_0, .int .i64 a0_1, .int .i64 a0_2, .string a0_3, .int .i64 a0_4]] w fun e w' => e = .returned (.bool r) ∧ Below w.heap.size w w' := by
 have hu25 := Tryz.underlying25
 have hu23 := Tryz.underlying23
 have HB := Aside0.mk (Below.refl w.heap.size w)
 have H : (if a0_1 = 0 then (soffitref04_Sound.j0 k (a0_2 == 0) a0_0 a0_1 a0_2 a0_3 a0_4) else (soffitref04_Sound.j0 k false a0_0 a0_1 a0_2 a0_3 a0_4)) = some r := h
 clear h
 have HC2 := Aside0.mk H
 clear H
 go_enter Tryz.func15, Tryz.ntmps15
 go_upto_region 1 with (first | ((with_reducible refine gate_dst (N := 1) rfl ?_); (try (refine gate_guard (by rfl) ?_; dsimp only)); refine bev (#[.int .i64 a0_0, .int .i64 a0_1, .int .i64 a0_2, .string a0_3, .int .i64 a0_4]) 25 ?_; intro gb964 hg w3 hbox hb; have BK964 := Aside0.mk (hbox); have GW964 := gs hg HB; have GE964 := GW964; replace HB := sb HB hb; clear hb hbox hg))
 (try simp only [Act.put, List.setIfInBounds_toArray, List.set_cons_zero, List.set_cons_succ])
 go_cut [3] (fun v3 wc => ∃ (kq : Nat) (x3_1 : Bool), v3 = .bool x3_1 ∧ Aside0 (soffitref04_Sound.j0 kq x3_1 a0_0 a0_1 a0_2 a0_3 a0_4 = some r) ∧ Aside0 (kq ≤ k) ∧ Aside0 (wc.heap[gb964]? = some (.cells #[.int .i64 a0_0, .int .i64 a0_1, .int .i64 a0_2, .string a0_3, .int .i64 a0_4] 25 (0, 0))) ∧ Aside0 (Below w.heap.size w wc))
 case first =>
  have H := HC2.out
  clear HC2
  by_cases c4 : a0_1 = 0
  ·replace H := ipe c4 H
   obtain ⟨H, c4b0, c4b1⟩ := H
   clear c4
   (first | rw [c4b0] | (simp only [i64_w, i32_w]; rw [c4b0]) | skip)
   have H' := Aside0.mk H
   clear H
   obtain ⟨Z5_0, Z5_1, Z5_2, Z5_3, Z5_4, F5_0, F5_1, F5_2, F5_3, F5_4⟩ := cz5 BK964.out
   go_wp2
   go_meet
   case rel => exact ⟨_, ((a0_2 == 0)), sz, H', ⟨oz⟩, ⟨bk BK964.out⟩, ⟨bz HB.out⟩⟩
  ·replace H := ine c4 H
   obtain ⟨H, c4b0, c4b1⟩ := H
   (first | rw [c4b0] | (simp only [i64_w, i32_w]; rw [c4b0]) | skip)
   have H' := Aside0.mk H
   clear H
   obtain ⟨Z6_0, Z6_1, Z6_2, Z6_3, Z6_4, F6_0, F6_1, F6_2, F6_3, F6_4⟩ := cz5 BK964.out
   go_wp2
   go_meet
   case rel => exact ⟨_, (false), sz, H', ⟨oz⟩, ⟨bk BK964.out⟩, ⟨bz HB.out⟩⟩
 case rest =>
  clear HC2
  skip
  obtain ⟨kq, x3_1, rfl, HA, HJ1, BK964, HB⟩ := hcut
  cases kq with
  | zero => exact absurd HA.out (by simp [soffitref04_Sound.j0])
  | succ kj1 =>
   have H := HA.out
   clear HA
   simp only [soffitref04_Sound.j0] at H
   have HC7 := Aside0.mk H
   clear H
   obtain ⟨Z8_0, Z8_1, Z8_2, Z8_3, Z8_4, F8_0, F8_1, F8_2, F8_3, F8_4⟩ := cz5 BK964.out
   go_upto_if 16 with (fail)
   have H := HC7.out
   clear HC7
   clear Z8_0 Z8_1 Z8_2 Z8_3 Z8_4 F8_0 F8_1 F8_2 F8_3 F8_4
   by_cases c9 : a0_0 = 0
   ·replace H := ipe c9 H
    obtain ⟨H, c9b0, c9b1⟩ := H
    clear c9
    (first | rw [c9b0] | (simp only [i64_w, i32_w]; rw [c9b0]) | skip)
    by_cases c10 : x3_1 = true
    ·subst c10
     have H1 : (if a0_3.toList = ([] : List UInt8) then (some (a0_4 == 0)) else (some false)) = some r := by rw [if_pos rfl] at H; exact H
     clear H
     have H := H1
     clear H1
     by_cases c11 : a0_3.toList = ([] : List UInt8)
     ·rw [if_pos c11] at H
      have c11b0 : (a0_3.toList == ([] : List UInt8)) = true := beq_iff_eq.mpr c11
      (try (have c11be : (a0_3.toList.isEmpty) = true := by (try simp only [isEmpty_beq]); exact c11b0))
      have c11b1 : (a0_3.toList != ([] : List UInt8)) = false := bne_eq_false_iff_eq.mpr c11
      clear c11
      obtain rfl := Option.some.inj H
      obtain ⟨Z12_0, Z12_1, Z12_2, Z12_3, Z12_4, F12_0, F12_1, F12_2, F12_3, F12_4⟩ := cz5 BK964.out
      go_wp2
      go_ret
      exact ⟨az, bz HB.out⟩
     ·rw [if_neg c11] at H
      have c11b0 : (a0_3.toList == ([] : List UInt8)) = false := beq_eq_false_iff_ne.mpr c11
      (try (have c11be : (a0_3.toList.isEmpty) = false := by (try simp only [isEmpty_beq]); exact c11b0))
      have c11b1 : (a0_3.toList != ([] : List UInt8)) = true := bne_iff_ne.mpr c11
      obtain rfl := Option.some.inj H
      obtain ⟨Z13_0, Z13_1, Z13_2, Z13_3, Z13_4, F13_0, F13_1, F13_2, F13_3, F13_4⟩ := cz5 BK964.out
      go_wp2
      go_ret
      exact ⟨az, bz HB.out⟩
    ·replace c10 := Bool.eq_false_iff.mpr c10
     subst c10
     have H1 : (some false) = some r := by rw [if_neg (show ¬ (false = true) by decide)] at H; exact H
     clear H
     have H := H1
     clear H1
     obtain rfl := Option.some.inj H
     go_wp2
     go_ret
     exact ⟨az, bz HB.out⟩
   ·replace H := ine c9 H
    obtain ⟨H, c9b0, c9b1⟩ := H
    (first | rw [c9b0] | (simp only [i64_w, i32_w]; rw [c9b0]) | skip)
    by_cases c14 : a0_0 = 1
    ·replace H := ipe c14 H
     obtain ⟨H, c14b0, c14b1⟩ := H
     clear c14
     replace H := Option.bind_eq_some_iff.mp H
     obtain ⟨t965, A150, H⟩ := H
     replace H : (if t965 = true then (if a0_3.toList = ([] : List UInt8) then (some (a0_4 == 0)) else (some false)) else (some false)) = some r := H
     have A15 := Aside0.mk A150
     clear A150
     by_cases c16 : t965 = true
     ·subst c16
      have H1 : (if a0_3.toList = ([] : List UInt8) then (some (a0_4 == 0)) else (some false)) = some r := by rw [if_pos rfl] at H; exact H
      clear H
      have H := H1
      clear H1
      by_cases c17 : a0_3.toList = ([] : List UInt8)
      ·rw [if_pos c17] at H
       have c17b0 : (a0_3.toList == ([] : List UInt8)) = true := beq_iff_eq.mpr c17
       (try (have c17be : (a0_3.toList.isEmpty) = true := by (try simp only [isEmpty_beq]); exact c17b0))
       have c17b1 : (a0_3.toList != ([] : List UInt8)) = false := bne_eq_false_iff_eq.mpr c17
       clear c17
       obtain rfl := Option.some.inj H
       obtain ⟨Z18_0, Z18_1, Z18_2, Z18_3, Z18_4, F18_0, F18_1, F18_2, F18_3, F18_4⟩ := cz5 BK964.out
       go_wp2_with (first | ((with_reducible refine gate_callee (f := 23) rfl ?_); refine gl_ (some 33) Tryz.func23 (by kernel_rfl) #[.agg #[.int .i64 a0_1, .int .i64 a0_2]] rfl ?_; (with_reducible refine (soffitref01_Sound.calls kj1 a0_1 a0_2 true _ A15.out).mono ?_); rintro e w19 ⟨rfl, hb⟩; refine ⟨_, rfl, ?_⟩; replace BK964 := kb BK964 hb; replace HB := sb HB hb; clear hb; obtain ⟨Z20_0, Z20_1, Z20_2, Z20_3, Z20_4, F20_0, F20_1, F20_2, F20_3, F20_4⟩ := cz5 BK964.out))
       go_ret
       exact ⟨az, bz HB.out⟩
      ·rw [if_neg c17] at H
       have c17b0 : (a0_3.toList == ([] : List UInt8)) = false := beq_eq_false_iff_ne.mpr c17
       (try (have c17be : (a0_3.toList.isEmpty) = false := by (try simp only [isEmpty_beq]); exact c17b0))
       have c17b1 : (a0_3.toList != ([] : List UInt8)) = true := bne_iff_ne.mpr c17
       obtain rfl := Option.some.inj H
       obtain ⟨Z21_0, Z21_1, Z21_2, Z21_3, Z21_4, F21_0, F21_1, F21_2, F21_3, F21_4⟩ := cz5 BK964.out
       go_wp2_with (first | ((with_reducible refine gate_callee (f := 23) rfl ?_); refine gl_ (some 33) Tryz.func23 (by kernel_rfl) #[.agg #[.int .i64 a0_1, .int .i64 a0_2]] rfl ?_; (with_reducible refine (soffitref01_Sound.calls kj1 a0_1 a0_2 true _ A15.out).mono ?_); rintro e w22 ⟨rfl, hb⟩; refine ⟨_, rfl, ?_⟩; replace BK964 := kb BK964 hb; replace HB := sb HB hb; clear hb; obtain ⟨Z23_0, Z23_1, Z23_2, Z23_3, Z23_4, F23_0, F23_1, F23_2, F23_3, F23_4⟩ := cz5 BK964.out))
       go_ret
       exact ⟨az, bz HB.out⟩
     ·replace c16 := Bool.eq_false_iff.mpr c16
      subst c16
      have H1 : (some false) = some r := by rw [if_neg (show ¬ (false = true) by decide)] at H; exact H
      clear H
      have H := H1
      clear H1
      obtain rfl := Option.some.inj H
      obtain ⟨Z24_0, Z24_1, Z24_2, Z24_3, Z24_4, F24_0, F24_1, F24_2, F24_3, F24_4⟩ := cz5 BK964.out
      go_wp2_with (first | ((with_reducible refine gate_callee (f := 23) rfl ?_); refine gl_ (some 33) Tryz.func23 (by kernel_rfl) #[.agg #[.int .i64 a0_1, .int .i64 a0_2]] rfl ?_; (with_reducible refine (soffitref01_Sound.calls kj1 a0_1 a0_2 false _ A15.out).mono ?_); rintro e w25 ⟨rfl, hb⟩; refine ⟨_, rfl, ?_⟩; replace BK964 := kb BK964 hb; replace HB := sb HB hb; clear hb))
      go_ret
      exact ⟨az, bz HB.out⟩
    ·replace H := ine c14 H
     obtain ⟨H, c14b0, c14b1⟩ := H
     by_cases c26 : a0_0 = 2
     ·replace H := ipe c26 H
      obtain ⟨H, c26b0, c26b1⟩ := H
      clear c26
      by_cases c27 : x3_1 = true
      ·subst c27
       have H1 : (if a0_4 = 0 then (if (a0_3.size : Int) ≤ 256 then ((soffitref04_good.f kj1 a0_3).bind fun t966 => (some t966)) else (some false)) else (some false)) = some r := by rw [if_pos rfl] at H; exact H
       clear H
       have H := H1
       clear H1
       by_cases c28 : a0_4 = 0
       ·replace H := ipe c28 H
        obtain ⟨H, c28b0, c28b1⟩ := H
        clear c28
        by_cases c29 : (a0_3.size : Int) ≤ 256
        ·rw [if_pos c29] at H
         have c29b0 : decide ((a0_3.size : Int) ≤ 256) = true := decide_eq_true c29
         have c29b1 : decide (a0_3.size ≤ 256) = true := decide_eq_true (by omega)
         clear c29
         replace H := Option.bind_eq_some_iff.mp H
         obtain ⟨t966, A300, H⟩ := H
         replace H : (some t966) = some r := H
         have A30 := Aside0.mk A300
         clear A300
         obtain rfl := Option.some.inj H
         obtain ⟨Z31_0, Z31_1, Z31_2, Z31_3, Z31_4, F31_0, F31_1, F31_2, F31_3, F31_4⟩ := cz5 BK964.out
         go_wp2_with (first | (go_at_call 42; (with_reducible refine (soffitref04_good.calls kj1 a0_3 t966 _ A30.out).mono ?_); rintro e w' ⟨rfl, ⟨nd, rfl⟩⟩))
         go_ret
         exact ⟨az, bz HB.out⟩
        ·rw [if_neg c29] at H
         have c29b0 : decide ((a0_3.size : Int) ≤ 256) = false := decide_eq_false c29
         have c29b1 : decide (a0_3.size ≤ 256) = false := decide_eq_false (by omega)
         clear c29
         obtain rfl := Option.some.inj H
         obtain ⟨Z32_0, Z32_1, Z32_2, Z32_3, Z32_4, F32_0, F32_1, F32_2, F32_3, F32_4⟩ := cz5 BK964.out
         go_wp2
         go_ret
         exact ⟨az, bz HB.out⟩
       ·replace H := ine c28 H
        obtain ⟨H, c28b0, c28b1⟩ := H
        obtain rfl := Option.some.inj H
        obtain ⟨Z33_0, Z33_1, Z33_2, Z33_3, Z33_4, F33_0, F33_1, F33_2, F33_3, F33_4⟩ := cz5 BK964.out
        go_wp2
        go_ret
        exact ⟨az, bz HB.out⟩
      ·replace c27 := Bool.eq_false_iff.mpr c27
       subst c27
       have H1 : (some false) = some r := by rw [if_neg (show ¬ (false = true) by decide)] at H; exact H
       clear H
       have H := H1
       clear H1
       obtain rfl := Option.some.inj H
       go_wp2
       go_ret
       exact ⟨az, bz HB.out⟩
     ·replace H := ine c26 H
      obtain ⟨H, c26b0, c26b1⟩ := H
      by_cases c34 : a0_0 = 3
      ·replace H := ipe c34 H
       obtain ⟨H, c34b0, c34b1⟩ := H
       clear c34
       by_cases c35 : x3_1 = true
       ·subst c35
        have H1 : (if a0_3.toList = ([] : List UInt8) then (if a0_4 = 0 then (some true) else (some (a0_4 == 1))) else (some false)) = some r := by rw [if_pos rfl] at H; exact H
        clear H
        have H := H1
        clear H1
        by_cases c36 : a0_3.toList = ([] : List UInt8)
        ·rw [if_pos c36] at H
         have c36b0 : (a0_3.toList == ([] : List UInt8)) = true := beq_iff_eq.mpr c36
         (try (have c36be : (a0_3.toList.isEmpty) = true := by (try simp only [isEmpty_beq]); exact c36b0))
         have c36b1 : (a0_3.toList != ([] : List UInt8)) = false := bne_eq_false_iff_eq.mpr c36
         clear c36
         by_cases c37 : a0_4 = 0
         ·replace H := ipe c37 H
          obtain ⟨H, c37b0, c37b1⟩ := H
          clear c37
          obtain rfl := Option.some.inj H
          obtain ⟨Z38_0, Z38_1, Z38_2, Z38_3, Z38_4, F38_0, F38_1, F38_2, F38_3, F38_4⟩ := cz5 BK964.out
          go_wp2
          go_ret
          exact ⟨az, bz HB.out⟩
         ·replace H := ine c37 H
          obtain ⟨H, c37b0, c37b1⟩ := H
          obtain rfl := Option.some.inj H
          obtain ⟨Z39_0, Z39_1, Z39_2, Z39_3, Z39_4, F39_0, F39_1, F39_2, F39_3, F39_4⟩ := cz5 BK964.out
          go_wp2
          go_ret
          exact ⟨az, bz HB.out⟩
        ·rw [if_neg c36] at H
         have c36b0 : (a0_3.toList == ([] : List UInt8)) = false := beq_eq_false_iff_ne.mpr c36
         (try (have c36be : (a0_3.toList.isEmpty) = false := by (try simp only [isEmpty_beq]); exact c36b0))
         have c36b1 : (a0_3.toList != ([] : List UInt8)) = true := bne_iff_ne.mpr c36
         obtain rfl := Option.some.inj H
         obtain ⟨Z40_0, Z40_1, Z40_2, Z40_3, Z40_4, F40_0, F40_1, F40_2, F40_3, F40_4⟩ := cz5 BK964.out
         go_wp2
         go_ret
         exact ⟨az, bz HB.out⟩
       ·replace c35 := Bool.eq_false_iff.mpr c35
        subst c35
        have H1 : (some false) = some r := by rw [if_neg (show ¬ (false = true) by decide)] at H; exact H
        clear H
        have H := H1
        clear H1
        obtain rfl := Option.some.inj H
        go_wp2
        go_ret
        exact ⟨az, bz HB.out⟩
      ·replace H := ine c34 H
       obtain ⟨H, c34b0, c34b1⟩ := H
       by_cases c41 : a0_0 = 4
       ·replace H := ipe c41 H
        obtain ⟨H, c41b0, c41b1⟩ := H
        clear c41
        by_cases c42 : x3_1 = true
        ·subst c42
         have H1 : (if a0_3.toList = ([] : List UInt8) then (if a0_4 ≥ 0 then (some (decide (a0_4 ≤ 3652058))) else (some false)) else (some false)) = some r := by rw [if_pos rfl] at H; exact H
         clear H
         have H := H1
         clear H1
         by_cases c43 : a0_3.toList = ([] : List UInt8)
         ·rw [if_pos c43] at H
          have c43b0 : (a0_3.toList == ([] : List UInt8)) = true := beq_iff_eq.mpr c43
          (try (have c43be : (a0_3.toList.isEmpty) = true := by (try simp only [isEmpty_beq]); exact c43b0))
          have c43b1 : (a0_3.toList != ([] : List UInt8)) = false := bne_eq_false_iff_eq.mpr c43
          clear c43
          by_cases c44 : a0_4 ≥ 0
          ·rw [if_pos c44] at H
           have c44b0 : decide (0 ≤ a0_4) = true := decide_eq_true c44
           clear c44
           obtain rfl := Option.some.inj H
           obtain ⟨Z45_0, Z45_1, Z45_2, Z45_3, Z45_4, F45_0, F45_1, F45_2, F45_3, F45_4⟩ := cz5 BK964.out
           go_wp2
           go_ret
           exact ⟨az, bz HB.out⟩
          ·rw [if_neg c44] at H
           have c44b0 : decide (0 ≤ a0_4) = false := decide_eq_false c44
           clear c44
           obtain rfl := Option.some.inj H
           obtain ⟨Z46_0, Z46_1, Z46_2, Z46_3, Z46_4, F46_0, F46_1, F46_2, F46_3, F46_4⟩ := cz5 BK964.out
           go_wp2
           go_ret
           exact ⟨az, bz HB.out⟩
         ·rw [if_neg c43] at H
          have c43b0 : (a0_3.toList == ([] : List UInt8)) = false := beq_eq_false_iff_ne.mpr c43
          (try (have c43be : (a0_3.toList.isEmpty) = false := by (try simp only [isEmpty_beq]); exact c43b0))
          have c43b1 : (a0_3.toList != ([] : List UInt8)) = true := bne_iff_ne.mpr c43
          obtain rfl := Option.some.inj H
          obtain ⟨Z47_0, Z47_1, Z47_2, Z47_3, Z47_4, F47_0, F47_1, F47_2, F47_3, F47_4⟩ := cz5 BK964.out
          go_wp2
          go_ret
          exact ⟨az, bz HB.out⟩
        ·replace c42 := Bool.eq_false_iff.mpr c42
         subst c42
         have H1 : (some false) = some r := by rw [if_neg (show ¬ (false = true) by decide)] at H; exact H
         clear H
         have H := H1
         clear H1
         obtain rfl := Option.some.inj H
         go_wp2
         go_ret
         exact ⟨az, bz HB.out⟩
       ·replace H := ine c41 H
        obtain ⟨H, c41b0, c41b1⟩ := H
        obtain rfl := Option.some.inj H
        go_wp2
        go_ret
        exact ⟨az, bz HB.out⟩
end Go.Proofs.YtgkemhgihbfmmaaGreatDoor.PA
end
section
namespace Go.Proofs.YtgkemhgihbfmmaaGreatDoor.PA
open Go.RowKit Go.Proofs.YtgkemhgihbfmmaaGreatDoorW.PrintWords Go.Proofs.YtgkemhgihbfmmaaGreatDoorW.PrintLast Go.Proofs.YtgkemhgihbfmmaaGreatDoorW.PrintMore
attribute [local go_sem] max2_int min2_int max_two min_two max_three min_three max_four min_four isSome_set str_gtr
set_option linter.unusedVariables false
set_option linter.unusedSimpArgs false
def soffitref10_Truth.f (a0 : Bool) : Option (Int × Int × Int × ByteArray × Int) := if a0 = true then (some (3, 0, 0, (⟨#[]⟩ : ByteArray), 1)) else (some (3, 0, 0, (⟨#[]⟩ : ByteArray), 0))
set_option maxHeartbeats 8000000 in
set_option maxRecDepth 100000 in
theorem soffitref10_Truth.calls (a0 : Bool) (r1 : Int) (r2 : Int) (r3 : Int) (r4 : ByteArray) (r5 : Int) (w : World) (h : soffitref10_Truth.f a0 = some (r1, r2, r3, r4, r5)) :
  Calls Tryz.prog 16 #[.bool a0] w fun e w' => e = .returned (.agg #[.int .i64 r1, .int .i64 r2, .int .i64 r3, .string r4, .int .i64 r5]) ∧ Below w.heap.size w w' := by
 have hu25 := Tryz.underlying25
 have HB := Aside0.mk (Below.refl w.heap.size w)
 have H : (if a0 = true then (some (3, 0, 0, (⟨#[]⟩ : ByteArray), 1)) else (some (3, 0, 0, (⟨#[]⟩ : ByteArray), 0))) = some (r1, r2, r3, r4, r5) := h
 clear h
 have HC2 := Aside0.mk H
 clear H
 go_enter Tryz.func16, Tryz.ntmps16
 go_upto_if 3 with (first | ((with_reducible refine gate_dst (N := 2) rfl ?_); refine bev (#[.int .i64 0, .int .i64 0, .int .i64 0, .string (⟨#[]⟩ : ByteArray), .int .i64 0]) 25 ?_; intro gb967 hg w3 hbox hb; have BK967 := Aside0.mk (hbox); have GW967 := gs hg HB; have GE967 := GW967; replace HB := sb HB hb; clear hb hbox hg))
 (try simp only [Act.put, List.setIfInBounds_toArray, List.set_cons_zero, List.set_cons_succ])
 have H := HC2.out
 clear HC2
 by_cases c4 : a0 = true
 ·subst c4
  have H1 : (some (3, 0, 0, (⟨#[]⟩ : ByteArray), 1)) = some (r1, r2, r3, r4, r5) := by rw [if_pos rfl] at H; exact H
  clear H
  have H := H1
  clear H1
  simp only [Option.some.injEq, Prod.mk.injEq] at H
  obtain ⟨rfl, rfl, rfl, rfl, rfl⟩ := H
  obtain ⟨Z5_0, Z5_1, Z5_2, Z5_3, Z5_4, F5_0, F5_1, F5_2, F5_3, F5_4⟩ := cz5 BK967.out
  go_wp2
  refine bodyPost_ret (results_cell_row rfl _ _ gb967 25 #[.int .i64 3, .int .i64 0, .int .i64 0, .string (⟨#[]⟩ : ByteArray), .int .i64 1] (0, 0) _ rfl (bp BK967.out) Tryz.underlying25 rfl (by kernel_rfl)) rfl ?_
  exact ⟨az, bz HB.out⟩
 ·replace c4 := Bool.eq_false_iff.mpr c4
  subst c4
  have H1 : (some (3, 0, 0, (⟨#[]⟩ : ByteArray), 0)) = some (r1, r2, r3, r4, r5) := by rw [if_neg (show ¬ (false = true) by decide)] at H; exact H
  clear H
  have H := H1
  clear H1
  simp only [Option.some.injEq, Prod.mk.injEq] at H
  obtain ⟨rfl, rfl, rfl, rfl, rfl⟩ := H
  obtain ⟨Z6_0, Z6_1, Z6_2, Z6_3, Z6_4, F6_0, F6_1, F6_2, F6_3, F6_4⟩ := cz5 BK967.out
  go_wp2
  refine bodyPost_ret (results_cell_row rfl _ _ gb967 25 #[.int .i64 3, .int .i64 0, .int .i64 0, .string (⟨#[]⟩ : ByteArray), .int .i64 0] (0, 0) _ rfl (bp BK967.out) Tryz.underlying25 rfl (by kernel_rfl)) rfl ?_
  exact ⟨az, bz HB.out⟩
end Go.Proofs.YtgkemhgihbfmmaaGreatDoor.PA
end
section
namespace Go.Proofs.YtgkemhgihbfmmaaGreatDoor.PA
open Go.RowKit Go.Proofs.YtgkemhgihbfmmaaGreatDoorW.PrintWords Go.Proofs.YtgkemhgihbfmmaaGreatDoorW.PrintLast Go.Proofs.YtgkemhgihbfmmaaGreatDoorW.PrintMore
attribute [local go_sem] max2_int min2_int max_two min_two max_three min_three max_four min_four isSome_set str_gtr
set_option linter.unusedVariables false
set_option linter.unusedSimpArgs false
attribute [local go_sem high] eqA25
mutual
def calc_Equal.j0 : Nat → Bool → Int → Int → Int → ByteArray → Int → Int → Int → Int → ByteArray → Int → Option (Int × Int × Int × ByteArray × Int)
 | 0, _, _, _, _, _, _, _, _, _, _, _ => none
 | k + 1, x5, x969000, x969001, x969002, x969003, x969004, x970000, x970001, x970002, x970003, x970004 => if x5 = true then (some (0, 0, 0, (⟨#[]⟩ : ByteArray), 0)) else (if x969000 = 0 then (calc_Equal.j1 k true x969000 x969001 x969002 x969003 x969004 x970000 x970001 x970002 x970003 x970004) else (calc_Equal.j1 k (x970000 == 0) x969000 x969001 x969002 x969003 x969004 x970000 x970001 x970002 x970003 x970004))
def calc_Equal.j1 : Nat → Bool → Int → Int → Int → ByteArray → Int → Int → Int → Int → ByteArray → Int → Option (Int × Int × Int × ByteArray × Int)
 | 0, _, _, _, _, _, _, _, _, _, _, _ => none
 | k + 1, x15, x969000, x969001, x969002, x969003, x969004, x970000, x970001, x970002, x970003, x970004 => if x15 = true then (calc_Equal.j2 k x15 x969000 x969001 x969002 x969003 x969004 x970000 x970001 x970002 x970003 x970004) else (calc_Equal.j2 k (x969000 == x970000) x969000 x969001 x969002 x969003 x969004 x970000 x970001 x970002 x970003 x970004)
def calc_Equal.j2 : Nat → Bool → Int → Int → Int → ByteArray → Int → Int → Int → Int → ByteArray → Int → Option (Int × Int × Int × ByteArray × Int)
 | 0, _, _, _, _, _, _, _, _, _, _, _ => none
 | k + 1, x15, x969000, x969001, x969002, x969003, x969004, x970000, x970001, x970002, x970003, x970004 => if x15 = true then ((logic_Truth.f (x969000 == x970000 && ((x969001 == x970001 && (x969002 == x970002)) && (x969003.toList == x970003.toList && (x969004 == x970004))))).bind fun bt973 => (some (bt973.1, bt973.2.1, bt973.2.2.1, bt973.2.2.2.1, bt973.2.2.2.2))) else (some (0, 0, 0, (⟨#[]⟩ : ByteArray), 0))
end
def calc_Equal.f (k : Nat) (a0_0 : Int) (a0_1 : Int) (a0_2 : Int) (a0_3 : ByteArray) (a0_4 : Int) (a1_0 : Int) (a1_1 : Int) (a1_2 : Int) (a1_3 : ByteArray) (a1_4 : Int) : Option (Int × Int × Int × ByteArray × Int) := (value_Sound.f k a0_0 a0_1 a0_2 a0_3 a0_4).bind fun t971 => (if t971 = true then ((value_Sound.f k a1_0 a1_1 a1_2 a1_3 a1_4).bind fun t972 => (calc_Equal.j0 k (!t972) a0_0 a0_1 a0_2 a0_3 a0_4 a1_0 a1_1 a1_2 a1_3 a1_4)) else (calc_Equal.j0 k true a0_0 a0_1 a0_2 a0_3 a0_4 a1_0 a1_1 a1_2 a1_3 a1_4))
set_option maxHeartbeats 8000000 in
set_option maxRecDepth 100000 in
theorem calc_Equal.calls (k : Nat) (a0_0 : Int) (a0_1 : Int) (a0_2 : Int) (a0_3 : ByteArray) (a0_4 : Int) (a1_0 : Int) (a1_1 : Int) (a1_2 : Int) (a1_3 : ByteArray) (a1_4 : Int) (r1 : Int) (r2 : Int) (r3 : Int) (r4 : ByteArray) (r5 : Int) (w : World) (hT : Tabs w) (h : calc_Equal.f k a0_0 a0_1 a0_2 a0_3 a0_4 a1_0 a1_1 a1_2 a1_3 a1_4 = some (r1, r2, r3, r4, r5)) :
  Calls Tryz.prog 26 #[.agg #[.int .i64 a0_0, .int .i64 a0_1, .int .i64 a0_2, .string a0_3, .int .i64 a0_4], .agg #[.int .i64 a1_0, .int .i64 a1_1, .int .i64 a1_2, .string a1_3, .int .i64 a1_4]] w fun e w' => e = .returned (.agg #[.int .i64 r1, .int .i64 r2, .int .i64 r3, .string r4, .int .i64 r5]) ∧ Below w.heap.size w w' := by
 have hu25 := Tryz.underlying25
 have HT := Aside0.mk hT; have HZ := Aside0.mk hT.null.pos; obtain ⟨hn0_, hn1_, hn2_, hn3_, hn4_⟩ := hT.null
 clear hT
 have HB := Aside0.mk (Below.refl w.heap.size w)
 have H : ((value_Sound.f k a0_0 a0_1 a0_2 a0_3 a0_4).bind fun t971 => (if t971 = true then ((value_Sound.f k a1_0 a1_1 a1_2 a1_3 a1_4).bind fun t972 => (calc_Equal.j0 k (!t972) a0_0 a0_1 a0_2 a0_3 a0_4 a1_0 a1_1 a1_2 a1_3 a1_4)) else (calc_Equal.j0 k true a0_0 a0_1 a0_2 a0_3 a0_4 a1_0 a1_1 a1_2 a1_3 a1_4))) = some (r1, r2, r3, r4, r5) := h
 clear h
 have HC3 := Aside0.mk H
 clear H
 go_enter Tryz.func26, Tryz.ntmps26
 go_upto_region 1 with (first | ((with_reducible refine gate_dst (N := 2) rfl ?_); refine bev (#[.int .i64 a0_0, .int .i64 a0_1, .int .i64 a0_2, .string a0_3, .int .i64 a0_4]) 25 ?_; intro gb968 hg w4 hbox hb; have BK968 := Aside0.mk (hbox); have GW968 := gs hg HB; have hz968 := ne0 HZ.out GW968.out; have GE968 := GW968; replace HB := sb HB hb; obtain ⟨_, _, _, _, _⟩ := nz HT HB; clear hb hbox hg) | ((with_reducible refine gate_dst (N := 3) rfl ?_); refine bev (#[.int .i64 a1_0, .int .i64 a1_1, .int .i64 a1_2, .string a1_3, .int .i64 a1_4]) 25 ?_; intro gb969 hg w5 hbox hb; have BK969 := Aside0.mk (hbox); have GW969 := gs hg HB; have hz969 := ne0 HZ.out GW969.out; have GE969 := GW969; replace HB := sb HB hb; obtain ⟨_, _, _, _, _⟩ := nz HT HB; have NB968_969 := na hg BK968; have NB969_968 := nb hg BK968; replace BK968 := kb BK968 hb; clear hb hbox hg) | ((with_reducible refine gate_dst (N := 4) rfl ?_); refine bev (#[.int .i64 0, .int .i64 0, .int .i64 0, .string (⟨#[]⟩ : ByteArray), .int .i64 0]) 25 ?_; intro gb970 hg w6 hbox hb; have BK970 := Aside0.mk (hbox); have GW970 := gs hg HB; have hz970 := ne0 HZ.out GW970.out; have GE970 := GW970; replace HB := sb HB hb; obtain ⟨_, _, _, _, _⟩ := nz HT HB; have NB968_970 := na hg BK968; have NB970_968 := nb hg BK968; replace BK968 := kb BK968 hb; have NB969_970 := na hg BK969; have NB970_969 := nb hg BK969; replace BK969 := kb BK969 hb; clear hb hbox hg))
 (try simp only [Act.put, List.setIfInBounds_toArray, List.set_cons_zero, List.set_cons_succ])
 go_cut [5] (fun v5 wc => ∃ (kq : Nat) (x5_2 : Bool), v5 = .bool x5_2 ∧ Aside0 (calc_Equal.j0 kq x5_2 a0_0 a0_1 a0_2 a0_3 a0_4 a1_0 a1_1 a1_2 a1_3 a1_4 = some (r1, r2, r3, r4, r5)) ∧ Aside0 (kq ≤ k) ∧ Aside0 (wc.heap[gb968]? = some (.cells #[.int .i64 a0_0, .int .i64 a0_1, .int .i64 a0_2, .string a0_3, .int .i64 a0_4] 25 (0, 0))) ∧ Aside0 (wc.heap[gb969]? = some (.cells #[.int .i64 a1_0, .int .i64 a1_1, .int .i64 a1_2, .string a1_3, .int .i64 a1_4] 25 (0, 0))) ∧ Aside0 (wc.heap[gb970]? = some (.cells #[.int .i64 0, .int .i64 0, .int .i64 0, .string (⟨#[]⟩ : ByteArray), .int .i64 0] 25 (0, 0))) ∧ Aside0 (Below w.heap.size w wc))
 case first =>
  have H := HC3.out
  clear HC3
  replace H := Option.bind_eq_some_iff.mp H
  obtain ⟨t971, A70, H⟩ := H
  replace H : (if t971 = true then ((value_Sound.f k a1_0 a1_1 a1_2 a1_3 a1_4).bind fun t972 => (calc_Equal.j0 k (!t972) a0_0 a0_1 a0_2 a0_3 a0_4 a1_0 a1_1 a1_2 a1_3 a1_4)) else (calc_Equal.j0 k true a0_0 a0_1 a0_2 a0_3 a0_4 a1_0 a1_1 a1_2 a1_3 a1_4)) = some (r1, r2, r3, r4, r5) := H
  have A7 := Aside0.mk A70
  clear A70
  by_cases c8 : t971 = true
  ·subst c8
   (try simp only [Bool.not_true, Bool.not_false])
   have H1 : ((value_Sound.f k a1_0 a1_1 a1_2 a1_3 a1_4).bind fun t972 => (calc_Equal.j0 k (!t972) a0_0 a0_1 a0_2 a0_3 a0_4 a1_0 a1_1 a1_2 a1_3 a1_4)) = some (r1, r2, r3, r4, r5) := by rw [if_pos rfl] at H; exact H
   clear H
   have H := H1
   clear H1
   replace H := Option.bind_eq_some_iff.mp H
   obtain ⟨t972, A90, H⟩ := H
   replace H : (calc_Equal.j0 k (!t972) a0_0 a0_1 a0_2 a0_3 a0_4 a1_0 a1_1 a1_2 a1_3 a1_4) = some (r1, r2, r3, r4, r5) := H
   have A9 := Aside0.mk A90
   clear A90
   have H' := Aside0.mk H
   clear H
   have hnb10 := NB968_969.out
   have hnc10 := NB969_968.out
   have hnb11 := NB968_970.out
   have hnc11 := NB970_968.out
   obtain ⟨Z12_0, Z12_1, Z12_2, Z12_3, Z12_4, F12_0, F12_1, F12_2, F12_3, F12_4⟩ := cz5 BK968.out
   go_wp2_with (first | ((with_reducible refine gate_callee (f := 38) rfl ?_); refine gl_ (some 7) Tryz.func38 (by kernel_rfl) #[.agg #[.int .i64 a0_0, .int .i64 a0_1, .int .i64 a0_2, .string a0_3, .int .i64 a0_4]] rfl ?_; (with_reducible refine (value_Sound.calls k a0_0 a0_1 a0_2 a0_3 a0_4 true _ ?side1 A7.out).mono ?_); (case side1 => exact tabs_of HT.out (bz HB.out)); rintro e w13 ⟨rfl, hb⟩; refine ⟨_, rfl, ?_⟩; replace BK968 := kb BK968 hb; replace BK969 := kb BK969 hb; replace BK970 := kb BK970 hb; replace HB := sb HB hb; obtain ⟨_, _, _, _, _⟩ := nz HT HB; clear hb; have hnb14 := NB969_970.out; have hnc14 := NB970_969.out; obtain ⟨Z15_0, Z15_1, Z15_2, Z15_3, Z15_4, F15_0, F15_1, F15_2, F15_3, F15_4⟩ := cz5 BK969.out) | (go_at_call 38; (with_reducible refine (value_Sound.calls k a1_0 a1_1 a1_2 a1_3 a1_4 t972 _ ?side1 A9.out).mono ?_); (case side1 => exact tabs_of HT.out (bz HB.out)); rintro e w16 ⟨rfl, hb⟩; replace BK968 := kb BK968 hb; replace BK969 := kb BK969 hb; replace BK970 := kb BK970 hb; replace HB := sb HB hb; obtain ⟨_, _, _, _, _⟩ := nz HT HB; clear hb))
   go_meet
   case rel => exact ⟨_, (!t972), sz, H', ⟨oz⟩, ⟨bk BK968.out⟩, ⟨bk BK969.out⟩, ⟨bk BK970.out⟩, ⟨bz HB.out⟩⟩
  ·replace c8 := Bool.eq_false_iff.mpr c8
   subst c8
   (try simp only [Bool.not_true, Bool.not_false])
   have H1 : (calc_Equal.j0 k true a0_0 a0_1 a0_2 a0_3 a0_4 a1_0 a1_1 a1_2 a1_3 a1_4) = some (r1, r2, r3, r4, r5) := by rw [if_neg (show ¬ (false = true) by decide)] at H; exact H
   clear H
   have H := H1
   clear H1
   have H' := Aside0.mk H
   clear H
   have hnb17 := NB968_969.out
   have hnc17 := NB969_968.out
   have hnb18 := NB968_970.out
   have hnc18 := NB970_968.out
   obtain ⟨Z19_0, Z19_1, Z19_2, Z19_3, Z19_4, F19_0, F19_1, F19_2, F19_3, F19_4⟩ := cz5 BK968.out
   go_wp2_with (first | ((with_reducible refine gate_callee (f := 38) rfl ?_); refine gl_ (some 7) Tryz.func38 (by kernel_rfl) #[.agg #[.int .i64 a0_0, .int .i64 a0_1, .int .i64 a0_2, .string a0_3, .int .i64 a0_4]] rfl ?_; (with_reducible refine (value_Sound.calls k a0_0 a0_1 a0_2 a0_3 a0_4 false _ ?side1 A7.out).mono ?_); (case side1 => exact tabs_of HT.out (bz HB.out)); rintro e w20 ⟨rfl, hb⟩; refine ⟨_, rfl, ?_⟩; replace BK968 := kb BK968 hb; replace BK969 := kb BK969 hb; replace BK970 := kb BK970 hb; replace HB := sb HB hb; obtain ⟨_, _, _, _, _⟩ := nz HT HB; clear hb))
   go_meet
   case rel => exact ⟨_, (true), sz, H', ⟨oz⟩, ⟨bk BK968.out⟩, ⟨bk BK969.out⟩, ⟨bk BK970.out⟩, ⟨bz HB.out⟩⟩
 case rest =>
  clear HC3
  skip
  obtain ⟨kq, x5_2, rfl, HA, HJ2, BK968, BK969, BK970, HB⟩ := hcut; obtain ⟨_, _, _, _, _⟩ := nz HT HB
  cases kq with
  | zero => exact absurd HA.out (by simp [calc_Equal.j0])
  | succ kj2 =>
   have H := HA.out
   clear HA
   simp only [calc_Equal.j0] at H
   by_cases c21 : x5_2 = true
   ·subst c21
    (try simp only [Bool.not_true, Bool.not_false])
    have H1 : (some (0, 0, 0, (⟨#[]⟩ : ByteArray), 0)) = some (r1, r2, r3, r4, r5) := by rw [if_pos rfl] at H; exact H
    clear H
    have H := H1
    clear H1
    simp only [Option.some.injEq, Prod.mk.injEq] at H
    obtain ⟨rfl, rfl, rfl, rfl, rfl⟩ := H
    have hnb22 := NB970_968.out
    have hnc22 := NB968_970.out
    have hnb23 := NB970_969.out
    have hnc23 := NB969_970.out
    obtain ⟨Z24_0, Z24_1, Z24_2, Z24_3, Z24_4, F24_0, F24_1, F24_2, F24_3, F24_4⟩ := cz5 BK970.out
    go_wp2
    refine bodyPost_ret (results_cell_row rfl _ _ gb970 25 #[.int .i64 0, .int .i64 0, .int .i64 0, .string (⟨#[]⟩ : ByteArray), .int .i64 0] (0, 0) _ rfl (bp BK970.out) Tryz.underlying25 rfl (by kernel_rfl)) rfl ?_
    exact ⟨az, bz HB.out⟩
   ·replace c21 := Bool.eq_false_iff.mpr c21
    subst c21
    (try simp only [Bool.not_true, Bool.not_false])
    have H1 : (if a0_0 = 0 then (calc_Equal.j1 kj2 true a0_0 a0_1 a0_2 a0_3 a0_4 a1_0 a1_1 a1_2 a1_3 a1_4) else (calc_Equal.j1 kj2 (a1_0 == 0) a0_0 a0_1 a0_2 a0_3 a0_4 a1_0 a1_1 a1_2 a1_3 a1_4)) = some (r1, r2, r3, r4, r5) := by rw [if_neg (show ¬ (false = true) by decide)] at H; exact H
    clear H
    have H := H1
    clear H1
    have HC25 := Aside0.mk H
    clear H
    go_upto_region 3 with (fail)
    go_cut [15] (fun v15 wc => ∃ (kq : Nat) (x15_24 : Bool), v15 = .bool x15_24 ∧ Aside0 (calc_Equal.j1 kq x15_24 a0_0 a0_1 a0_2 a0_3 a0_4 a1_0 a1_1 a1_2 a1_3 a1_4 = some (r1, r2, r3, r4, r5)) ∧ Aside0 (kq ≤ kj2) ∧ Aside0 (wc.heap[gb968]? = some (.cells #[.int .i64 a0_0, .int .i64 a0_1, .int .i64 a0_2, .string a0_3, .int .i64 a0_4] 25 (0, 0))) ∧ Aside0 (wc.heap[gb969]? = some (.cells #[.int .i64 a1_0, .int .i64 a1_1, .int .i64 a1_2, .string a1_3, .int .i64 a1_4] 25 (0, 0))) ∧ Aside0 (wc.heap[gb970]? = some (.cells #[.int .i64 0, .int .i64 0, .int .i64 0, .string (⟨#[]⟩ : ByteArray), .int .i64 0] 25 (0, 0))) ∧ Aside0 (Below w.heap.size w wc))
    case first =>
     have H := HC25.out
     clear HC25
     by_cases c26 : a0_0 = 0
     ·replace H := ipe c26 H
      obtain ⟨H, c26b0, c26b1⟩ := H
      clear c26
      (first | rw [c26b0] | (simp only [i64_w, i32_w]; rw [c26b0]) | skip)
      have H' := Aside0.mk H
      clear H
      have hnb27 := NB968_969.out
      have hnc27 := NB969_968.out
      have hnb28 := NB968_970.out
      have hnc28 := NB970_968.out
      obtain ⟨Z29_0, Z29_1, Z29_2, Z29_3, Z29_4, F29_0, F29_1, F29_2, F29_3, F29_4⟩ := cz5 BK968.out
      go_wp2
      go_meet
      case rel => exact ⟨_, (true), sz, H', ⟨by have := HJ2.out; first | omega | exact Nat.le_refl _⟩, ⟨bk BK968.out⟩, ⟨bk BK969.out⟩, ⟨bk BK970.out⟩, ⟨bz HB.out⟩⟩
     ·replace H := ine c26 H
      obtain ⟨H, c26b0, c26b1⟩ := H
      (first | rw [c26b0] | (simp only [i64_w, i32_w]; rw [c26b0]) | skip)
      have H' := Aside0.mk H
      clear H
      have hnb30 := NB968_969.out
      have hnc30 := NB969_968.out
      have hnb31 := NB968_970.out
      have hnc31 := NB970_968.out
      obtain ⟨Z32_0, Z32_1, Z32_2, Z32_3, Z32_4, F32_0, F32_1, F32_2, F32_3, F32_4⟩ := cz5 BK968.out
      have hnb33 := NB969_970.out
      have hnc33 := NB970_969.out
      obtain ⟨Z34_0, Z34_1, Z34_2, Z34_3, Z34_4, F34_0, F34_1, F34_2, F34_3, F34_4⟩ := cz5 BK969.out
      go_wp2
      go_meet
      case rel => exact ⟨_, ((a1_0 == 0)), sz, H', ⟨by have := HJ2.out; first | omega | exact Nat.le_refl _⟩, ⟨bk BK968.out⟩, ⟨bk BK969.out⟩, ⟨bk BK970.out⟩, ⟨bz HB.out⟩⟩
    case rest =>
     clear HC25
     try clear c8; try clear c21; try clear Z12_0; try clear Z12_1; try clear Z12_2; try clear Z12_3; try clear Z12_4; try clear Z15_0; try clear Z15_1; try clear Z15_2; try clear Z15_3; try clear Z15_4; try clear Z19_0; try clear Z19_1; try clear Z19_2; try clear Z19_3; try clear Z19_4; try clear Z24_0; try clear Z24_1; try clear Z24_2; try clear Z24_3; try clear Z24_4; try clear F12_0; try clear F12_1; try clear F12_2; try clear F12_3; try clear F12_4; try clear F15_0; try clear F15_1; try clear F15_2; try clear F15_3; try clear F15_4; try clear F19_0; try clear F19_1; try clear F19_2; try clear F19_3; try clear F19_4; try clear F24_0; try clear F24_1; try clear F24_2; try clear F24_3; try clear F24_4
     obtain ⟨kq, x15_24, rfl, HA, HJ24, BK968, BK969, BK970, HB⟩ := hcut; obtain ⟨_, _, _, _, _⟩ := nz HT HB
     cases kq with
     | zero => exact absurd HA.out (by simp [calc_Equal.j1])
     | succ kj24 =>
      have H := HA.out
      clear HA
      simp only [calc_Equal.j1] at H
      have HC35 := Aside0.mk H
      clear H
      go_upto_if 15 with (fail)
      go_cut [15] (fun v15 wc => ∃ (kq : Nat) (x15_34 : Bool), v15 = .bool x15_34 ∧ Aside0 (calc_Equal.j2 kq x15_34 a0_0 a0_1 a0_2 a0_3 a0_4 a1_0 a1_1 a1_2 a1_3 a1_4 = some (r1, r2, r3, r4, r5)) ∧ Aside0 (kq ≤ kj24) ∧ Aside0 (wc.heap[gb968]? = some (.cells #[.int .i64 a0_0, .int .i64 a0_1, .int .i64 a0_2, .string a0_3, .int .i64 a0_4] 25 (0, 0))) ∧ Aside0 (wc.heap[gb969]? = some (.cells #[.int .i64 a1_0, .int .i64 a1_1, .int .i64 a1_2, .string a1_3, .int .i64 a1_4] 25 (0, 0))) ∧ Aside0 (wc.heap[gb970]? = some (.cells #[.int .i64 0, .int .i64 0, .int .i64 0, .string (⟨#[]⟩ : ByteArray), .int .i64 0] 25 (0, 0))) ∧ Aside0 (Below w.heap.size w wc))
      case first =>
       have H := HC35.out
       clear HC35
       by_cases c36 : x15_24 = true
       ·subst c36
        (try simp only [Bool.not_true, Bool.not_false])
        have H1 : (calc_Equal.j2 kj24 true a0_0 a0_1 a0_2 a0_3 a0_4 a1_0 a1_1 a1_2 a1_3 a1_4) = some (r1, r2, r3, r4, r5) := by rw [if_pos rfl] at H; exact H
        clear H
        have H := H1
        clear H1
        have H' := Aside0.mk H
        clear H
        go_wp2
        go_meet
        case rel => exact ⟨_, (true), sz, H', ⟨by have := HJ2.out; have := HJ24.out; first | omega | exact Nat.le_refl _⟩, ⟨bk BK968.out⟩, ⟨bk BK969.out⟩, ⟨bk BK970.out⟩, ⟨bz HB.out⟩⟩
       ·replace c36 := Bool.eq_false_iff.mpr c36
        subst c36
        (try simp only [Bool.not_true, Bool.not_false])
        have H1 : (calc_Equal.j2 kj24 (a0_0 == a1_0) a0_0 a0_1 a0_2 a0_3 a0_4 a1_0 a1_1 a1_2 a1_3 a1_4) = some (r1, r2, r3, r4, r5) := by rw [if_neg (show ¬ (false = true) by decide)] at H; exact H
        clear H
        have H := H1
        clear H1
        have H' := Aside0.mk H
        clear H
        have hnb37 := NB968_969.out
        have hnc37 := NB969_968.out
        have hnb38 := NB968_970.out
        have hnc38 := NB970_968.out
        obtain ⟨Z39_0, Z39_1, Z39_2, Z39_3, Z39_4, F39_0, F39_1, F39_2, F39_3, F39_4⟩ := cz5 BK968.out
        have hnb40 := NB969_970.out
        have hnc40 := NB970_969.out
        obtain ⟨Z41_0, Z41_1, Z41_2, Z41_3, Z41_4, F41_0, F41_1, F41_2, F41_3, F41_4⟩ := cz5 BK969.out
        go_wp2
        go_meet
        case rel => exact ⟨_, ((a0_0 == a1_0)), sz, H', ⟨by have := HJ2.out; have := HJ24.out; first | omega | exact Nat.le_refl _⟩, ⟨bk BK968.out⟩, ⟨bk BK969.out⟩, ⟨bk BK970.out⟩, ⟨bz HB.out⟩⟩
      case rest =>
       clear HC35
       try clear c8; try clear c21; try clear c26; try clear c26b0; try clear c26b1; try clear Z12_0; try clear Z12_1; try clear Z12_2; try clear Z12_3; try clear Z12_4; try clear Z15_0; try clear Z15_1; try clear Z15_2; try clear Z15_3; try clear Z15_4; try clear Z19_0; try clear Z19_1; try clear Z19_2; try clear Z19_3; try clear Z19_4; try clear Z24_0; try clear Z24_1; try clear Z24_2; try clear Z24_3; try clear Z24_4; try clear Z29_0; try clear Z29_1; try clear Z29_2; try clear Z29_3; try clear Z29_4; try clear Z32_0; try clear Z32_1; try clear Z32_2; try clear Z32_3; try clear Z32_4; try clear Z34_0; try clear Z34_1; try clear Z34_2; try clear Z34_3; try clear Z34_4; try clear F12_0; try clear F12_1; try clear F12_2; try clear F12_3; try clear F12_4; try clear F15_0; try clear F15_1; try clear F15_2; try clear F15_3; try clear F15_4; try clear F19_0; try clear F19_1; try clear F19_2; try clear F19_3; try clear F19_4; try clear F24_0; try clear F24_1; try clear F24_2; try clear F24_3; try clear F24_4; try clear F29_0; try clear F29_1; try clear F29_2; try clear F29_3; try clear F29_4; try clear F32_0; try clear F32_1; try clear F32_2; try clear F32_3; try clear F32_4; try clear F34_0; try clear F34_1; try clear F34_2; try clear F34_3; try clear F34_4
       obtain ⟨kq, x15_34, rfl, HA, HJ34, BK968, BK969, BK970, HB⟩ := hcut; obtain ⟨_, _, _, _, _⟩ := nz HT HB
       cases kq with
       | zero => exact absurd HA.out (by simp [calc_Equal.j2])
       | succ kj34 =>
        have H := HA.out
        clear HA
        simp only [calc_Equal.j2] at H
        by_cases c42 : x15_34 = true
        ·subst c42
         (try simp only [Bool.not_true, Bool.not_false])
         have H1 : ((logic_Truth.f (a0_0 == a1_0 && ((a0_1 == a1_1 && (a0_2 == a1_2)) && (a0_3.toList == a1_3.toList && (a0_4 == a1_4))))).bind fun bt973 => (some (bt973.1, bt973.2.1, bt973.2.2.1, bt973.2.2.2.1, bt973.2.2.2.2))) = some (r1, r2, r3, r4, r5) := by rw [if_pos rfl] at H; exact H
         clear H
         have H := H1
         clear H1
         replace H := Option.bind_eq_some_iff.mp H
         obtain ⟨⟨t973, t974, t975, t976, t977⟩, A430, H⟩ := H
         replace H : (some (t973, t974, t975, t976, t977)) = some (r1, r2, r3, r4, r5) := H
         have A43 := Aside0.mk A430
         clear A430
         simp only [Option.some.injEq, Prod.mk.injEq] at H
         obtain ⟨rfl, rfl, rfl, rfl, rfl⟩ := H
         have hnb44 := NB968_969.out
         have hnc44 := NB969_968.out
         have hnb45 := NB968_970.out
         have hnc45 := NB970_968.out
         obtain ⟨Z46_0, Z46_1, Z46_2, Z46_3, Z46_4, F46_0, F46_1, F46_2, F46_3, F46_4⟩ := cz5 BK968.out
         have hnb47 := NB969_970.out
         have hnc47 := NB970_969.out
         obtain ⟨Z48_0, Z48_1, Z48_2, Z48_3, Z48_4, F48_0, F48_1, F48_2, F48_3, F48_4⟩ := cz5 BK969.out
         go_wp2_with (first | ((with_reducible refine gate_callee (f := 59) rfl ?_); refine gl_ (some 32) Tryz.func59 (by kernel_rfl) #[.bool (a0_0 == a1_0 && ((a0_1 == a1_1 && (a0_2 == a1_2)) && (a0_3.toList == a1_3.toList && (a0_4 == a1_4))))] rfl ?_; (with_reducible refine (logic_Truth.calls (a0_0 == a1_0 && ((a0_1 == a1_1 && (a0_2 == a1_2)) && (a0_3.toList == a1_3.toList && (a0_4 == a1_4)))) t973 t974 t975 t976 t977 _ A43.out).mono ?_); rintro e w49 ⟨rfl, hb⟩; refine ⟨_, rfl, ?_⟩; replace BK968 := kb BK968 hb; replace BK969 := kb BK969 hb; replace BK970 := kb BK970 hb; replace HB := sb HB hb; obtain ⟨_, _, _, _, _⟩ := nz HT HB; clear hb; obtain ⟨Z50_0, Z50_1, Z50_2, Z50_3, Z50_4, F50_0, F50_1, F50_2, F50_3, F50_4⟩ := cz5 BK970.out))
         refine bodyPost_ret (results_cell_row rfl _ _ gb970 25 #[.int .i64 t973, .int .i64 t974, .int .i64 t975, .string t976, .int .i64 t977] (0, 0) _ rfl (bp BK970.out) Tryz.underlying25 rfl (by kernel_rfl)) rfl ?_
         exact ⟨az, bz HB.out⟩
        ·replace c42 := Bool.eq_false_iff.mpr c42
         subst c42
         (try simp only [Bool.not_true, Bool.not_false])
         have H1 : (some (0, 0, 0, (⟨#[]⟩ : ByteArray), 0)) = some (r1, r2, r3, r4, r5) := by rw [if_neg (show ¬ (false = true) by decide)] at H; exact H
         clear H
         have H := H1
         clear H1
         simp only [Option.some.injEq, Prod.mk.injEq] at H
         obtain ⟨rfl, rfl, rfl, rfl, rfl⟩ := H
         have hnb51 := NB970_968.out
         have hnc51 := NB968_970.out
         have hnb52 := NB970_969.out
         have hnc52 := NB969_970.out
         obtain ⟨Z53_0, Z53_1, Z53_2, Z53_3, Z53_4, F53_0, F53_1, F53_2, F53_3, F53_4⟩ := cz5 BK970.out
         go_wp2
         refine bodyPost_ret (results_cell_row rfl _ _ gb970 25 #[.int .i64 0, .int .i64 0, .int .i64 0, .string (⟨#[]⟩ : ByteArray), .int .i64 0] (0, 0) _ rfl (bp BK970.out) Tryz.underlying25 rfl (by kernel_rfl)) rfl ?_
         exact ⟨az, bz HB.out⟩
end Go.Proofs.YtgkemhgihbfmmaaGreatDoor.PA
end
section
namespace Go.Proofs.YtgkemhgihbfmmaaGreatDoor.PA
open Go.RowKit Go.Proofs.YtgkemhgihbfmmaaGreatDoorW.PrintWords Go.Proofs.YtgkemhgihbfmmaaGreatDoorW.PrintLast Go.Proofs.YtgkemhgihbfmmaaGreatDoorW.PrintMore
attribute [local go_sem] max2_int min2_int max_two min_two max_three min_three max_four min_four isSome_set str_gtr
set_option linter.unusedVariables false
set_option linter.unusedSimpArgs false
attribute [local go_sem high] eqA25
mutual
def soffitlaw11_CalcThree.l0 : Nat → Int → List (S25) → Int → Int → Int → Int → Int → ByteArray → Int → Int → Int → Int → ByteArray → Int → Option (Bool)
 | 0, _, _, _, _, _, _, _, _, _, _, _, _, _, _ => none
 | k + 1, x5, x17, x18, x19, x979000, x979001, x979002, x979003, x979004, x980000, x980001, x980002, x980003, x980004 => if x19 < x18 then (if 0 ≤ x19 then (if x19 < (x17.length : Int) then ((soffitref10_Truth.f true).bind fun bt1000 => (if (((rd_T25 x17 x19).f0) == bt1000.1 && ((((rd_T25 x17 x19).f1.f0) == bt1000.2.1 && (((rd_T25 x17 x19).f1.f1) == bt1000.2.2.1)) && ((((rd_T25 x17 x19).f2).toList) == bt1000.2.2.2.1.toList && (((rd_T25 x17 x19).f3) == bt1000.2.2.2.2)))) = true then (soffitlaw11_CalcThree.l0 k (wrap64 (x5 + 1)) x17 x18 (wrap64 (x19 + 1)) x979000 x979001 x979002 x979003 x979004 x980000 x980001 x980002 x980003 x980004) else (soffitlaw11_CalcThree.l0 k x5 x17 x18 (wrap64 (x19 + 1)) x979000 x979001 x979002 x979003 x979004 x980000 x980001 x980002 x980003 x980004))) else (none)) else (none)) else ((soffitlaw11_awake.f k).bind fun t1005 => (if t1005 = true then ((soffitref04_Sound.f k x979000 x979001 x979002 x979003 x979004).bind fun t1006 => (if t1006 = true then ((soffitref04_Sound.f k x980000 x980001 x980002 x980003 x980004).bind fun t1007 => (soffitlaw11_CalcThree.j1 k x5 (!t1007) x979000 x979001 x979002 x979003 x979004 x980000 x980001 x980002 x980003 x980004)) else (soffitlaw11_CalcThree.j1 k x5 true x979000 x979001 x979002 x979003 x979004 x980000 x980001 x980002 x980003 x980004))) else (soffitlaw11_CalcThree.j1 k x5 true x979000 x979001 x979002 x979003 x979004 x980000 x980001 x980002 x980003 x980004)))
def soffitlaw11_CalcThree.j1 : Nat → Int → Bool → Int → Int → Int → ByteArray → Int → Int → Int → Int → ByteArray → Int → Option (Bool)
 | 0, _, _, _, _, _, _, _, _, _, _, _, _ => none
 | k + 1, x5, x40, x979000, x979001, x979002, x979003, x979004, x980000, x980001, x980002, x980003, x980004 => if x40 = true then ((soffitlaw11_awake.f k).bind fun t1008 => (if t1008 = true then (some (x5 == 0)) else (some false))) else (if x979000 = x980000 then (if x979000 = 3 then (soffitlaw11_CalcThree.j2 k x5 false x979000 x979001 x979002 x979003 x979004 x980000 x980001 x980002 x980003 x980004) else (soffitlaw11_CalcThree.j2 k x5 (x979000 != 0) x979000 x979001 x979002 x979003 x979004 x980000 x980001 x980002 x980003 x980004)) else (soffitlaw11_CalcThree.j2 k x5 false x979000 x979001 x979002 x979003 x979004 x980000 x980001 x980002 x980003 x980004))
def soffitlaw11_CalcThree.j2 : Nat → Int → Bool → Int → Int → Int → ByteArray → Int → Int → Int → Int → ByteArray → Int → Option (Bool)
 | 0, _, _, _, _, _, _, _, _, _, _, _, _ => none
 | k + 1, x5, x60, x979000, x979001, x979002, x979003, x979004, x980000, x980001, x980002, x980003, x980004 => if x60 = true then (some (x5 == 1)) else (if x5 ≤ 1 then (some ((x5 == 1) == (x979000 == x980000 && ((x979001 == x980001 && (x979002 == x980002)) && (x979003.toList == x980003.toList && (x979004 == x980004)))))) else (some false))
end
def soffitlaw11_CalcThree.f (k : Nat) (a0_0 : Int) (a0_1 : Int) (a0_2 : Int) (a0_3 : ByteArray) (a0_4 : Int) (a1_0 : Int) (a1_1 : Int) (a1_2 : Int) (a1_3 : ByteArray) (a1_4 : Int) : Option (Bool) := (calc_Less.f k a0_0 a0_1 a0_2 a0_3 a0_4 a1_0 a1_1 a1_2 a1_3 a1_4).bind fun bt980 => ((calc_Equal.f k a0_0 a0_1 a0_2 a0_3 a0_4 a1_0 a1_1 a1_2 a1_3 a1_4).bind fun bt985 => ((calc_Less.f k a1_0 a1_1 a1_2 a1_3 a1_4 a0_0 a0_1 a0_2 a0_3 a0_4).bind fun bt990 => ((some (([(⟨bt980.1, (⟨bt980.2.1, bt980.2.2.1⟩ : S23), bt980.2.2.2.1, bt980.2.2.2.2⟩ : S25), (⟨bt985.1, (⟨bt985.2.1, bt985.2.2.1⟩ : S23), bt985.2.2.2.1, bt985.2.2.2.2⟩ : S25), (⟨bt990.1, (⟨bt990.2.1, bt990.2.2.1⟩ : S23), bt990.2.2.2.1, bt990.2.2.2.2⟩ : S25)] : List (S25)) : List (S25))).bind fun y995 => (soffitlaw11_CalcThree.l0 k 0 y995 (y995.length : Int) 0 a0_0 a0_1 a0_2 a0_3 a0_4 a1_0 a1_1 a1_2 a1_3 a1_4))))
def soffitlaw11_CalcThree.T2 : Bool × List (List Nat × List Nat) := (true, [([], []), ([], []), ([0, 1], [0, 1]), ([], []), ([], []), ([3, 4, 2], [3, 4]), ([], []), ([], []), ([6, 7, 5], [6, 7]), ([2, 5, 8], [2, 5, 8]), ([9], [9]), ([], [])])
def soffitlaw11_CalcThree.B2 : List Nat := [0, 0, 3, 0, 0, 31, 0, 0, 255, 511, 1023, 0]
theorem soffitlaw11_CalcThree.tab2 : rtab .any (opsOf Tryz.f10 2) = soffitlaw11_CalcThree.T2 := by kernel_rfl
theorem soffitlaw11_CalcThree.bits2 : waitsOk soffitlaw11_CalcThree.T2.2 soffitlaw11_CalcThree.B2 = true := by kernel_rfl
set_option maxHeartbeats 8000000 in
set_option maxRecDepth 100000 in
theorem soffitlaw11_CalcThree.calls (k : Nat) (a0_0 : Int) (a0_1 : Int) (a0_2 : Int) (a0_3 : ByteArray) (a0_4 : Int) (a1_0 : Int) (a1_1 : Int) (a1_2 : Int) (a1_3 : ByteArray) (a1_4 : Int) (r : Bool) (w : World) (hT : Tabs w) (hr : r = true) (h : soffitlaw11_CalcThree.f k a0_0 a0_1 a0_2 a0_3 a0_4 a1_0 a1_1 a1_2 a1_3 a1_4 = some r) :
  Calls Tryz.prog 10 #[.agg #[.int .i64 a0_0, .int .i64 a0_1, .int .i64 a0_2, .string a0_3, .int .i64 a0_4], .agg #[.int .i64 a1_0, .int .i64 a1_1, .int .i64 a1_2, .string a1_3, .int .i64 a1_4]] w fun e w' => e = .returned (.bool r) ∧ Below w.heap.size w w' := by
 have hu25 := Tryz.underlying25
 have HT := Aside0.mk hT
 clear hT
 have HR := Aside0.mk hr
 clear hr
 have HB := Aside0.mk (Below.refl w.heap.size w)
 have H : ((calc_Less.f k a0_0 a0_1 a0_2 a0_3 a0_4 a1_0 a1_1 a1_2 a1_3 a1_4).bind fun bt980 => ((calc_Equal.f k a0_0 a0_1 a0_2 a0_3 a0_4 a1_0 a1_1 a1_2 a1_3 a1_4).bind fun bt985 => ((calc_Less.f k a1_0 a1_1 a1_2 a1_3 a1_4 a0_0 a0_1 a0_2 a0_3 a0_4).bind fun bt990 => ((some (([(⟨bt980.1, (⟨bt980.2.1, bt980.2.2.1⟩ : S23), bt980.2.2.2.1, bt980.2.2.2.2⟩ : S25), (⟨bt985.1, (⟨bt985.2.1, bt985.2.2.1⟩ : S23), bt985.2.2.2.1, bt985.2.2.2.2⟩ : S25), (⟨bt990.1, (⟨bt990.2.1, bt990.2.2.1⟩ : S23), bt990.2.2.2.1, bt990.2.2.2.2⟩ : S25)] : List (S25)) : List (S25))).bind fun y995 => (soffitlaw11_CalcThree.l0 k 0 y995 (y995.length : Int) 0 a0_0 a0_1 a0_2 a0_3 a0_4 a1_0 a1_1 a1_2 a1_3 a1_4))))) = some r := h
 clear h
 replace H := Option.bind_eq_some_iff.mp H
 obtain ⟨⟨t980, t981, t982, t983, t984⟩, A30, H⟩ := H
 replace H : ((calc_Equal.f k a0_0 a0_1 a0_2 a0_3 a0_4 a1_0 a1_1 a1_2 a1_3 a1_4).bind fun bt985 => ((calc_Less.f k a1_0 a1_1 a1_2 a1_3 a1_4 a0_0 a0_1 a0_2 a0_3 a0_4).bind fun bt990 => ((some (([(⟨t980, (⟨t981, t982⟩ : S23), t983, t984⟩ : S25), (⟨bt985.1, (⟨bt985.2.1, bt985.2.2.1⟩ : S23), bt985.2.2.2.1, bt985.2.2.2.2⟩ : S25), (⟨bt990.1, (⟨bt990.2.1, bt990.2.2.1⟩ : S23), bt990.2.2.2.1, bt990.2.2.2.2⟩ : S25)] : List (S25)) : List (S25))).bind fun y995 => (soffitlaw11_CalcThree.l0 k 0 y995 (y995.length : Int) 0 a0_0 a0_1 a0_2 a0_3 a0_4 a1_0 a1_1 a1_2 a1_3 a1_4)))) = some r := H
 have A3 := Aside0.mk A30
 clear A30
 replace H := Option.bind_eq_some_iff.mp H
 obtain ⟨⟨t985, t986, t987, t988, t989⟩, A40, H⟩ := H
 replace H : ((calc_Less.f k a1_0 a1_1 a1_2 a1_3 a1_4 a0_0 a0_1 a0_2 a0_3 a0_4).bind fun bt990 => ((some (([(⟨t980, (⟨t981, t982⟩ : S23), t983, t984⟩ : S25), (⟨t985, (⟨t986, t987⟩ : S23), t988, t989⟩ : S25), (⟨bt990.1, (⟨bt990.2.1, bt990.2.2.1⟩ : S23), bt990.2.2.2.1, bt990.2.2.2.2⟩ : S25)] : List (S25)) : List (S25))).bind fun y995 => (soffitlaw11_CalcThree.l0 k 0 y995 (y995.length : Int) 0 a0_0 a0_1 a0_2 a0_3 a0_4 a1_0 a1_1 a1_2 a1_3 a1_4))) = some r := H
 have A4 := Aside0.mk A40
 clear A40
 replace H := Option.bind_eq_some_iff.mp H
 obtain ⟨⟨t990, t991, t992, t993, t994⟩, A50, H⟩ := H
 replace H : ((some (([(⟨t980, (⟨t981, t982⟩ : S23), t983, t984⟩ : S25), (⟨t985, (⟨t986, t987⟩ : S23), t988, t989⟩ : S25), (⟨t990, (⟨t991, t992⟩ : S23), t993, t994⟩ : S25)] : List (S25)) : List (S25))).bind fun y995 => (soffitlaw11_CalcThree.l0 k 0 y995 (y995.length : Int) 0 a0_0 a0_1 a0_2 a0_3 a0_4 a1_0 a1_1 a1_2 a1_3 a1_4)) = some r := H
 have A5 := Aside0.mk A50
 clear A50
 obtain ⟨y995, hy995⟩ : ∃ y_ : List (S25), y_ = (([(⟨t980, (⟨t981, t982⟩ : S23), t983, t984⟩ : S25), (⟨t985, (⟨t986, t987⟩ : S23), t988, t989⟩ : S25), (⟨t990, (⟨t991, t992⟩ : S23), t993, t994⟩ : S25)] : List (S25))) := ⟨_, rfl⟩
 replace H : (soffitlaw11_CalcThree.l0 k 0 y995 (y995.length : Int) 0 a0_0 a0_1 a0_2 a0_3 a0_4 a1_0 a1_1 a1_2 a1_3 a1_4) = some r := by first | (rw [hy995]; with_reducible exact H) | (have H2_ := (Option.bind_some _ _).symm.trans H; rw [hy995]; with_reducible exact H2_) | (have H2_ := (Option.bind_some _ _).symm.trans H; with_reducible exact H2_) | with_reducible exact H | (rw [hy995]; exact H) | exact H
 have Ny995 := Aside0.mk hy995
 clear hy995
 have H' := Aside0.mk H
 clear H
 go_enter Tryz.func10, Tryz.ntmps10
 try go_wp2_with (first | ((with_reducible refine gate_dst (N := 2) rfl ?_); refine bev (#[.int .i64 a0_0, .int .i64 a0_1, .int .i64 a0_2, .string a0_3, .int .i64 a0_4]) 25 ?_; intro gb978 hg w6 hbox hb; have BK978 := Aside0.mk (hbox); have GW978 := gs hg HB; have GE978 := GW978; replace HB := sb HB hb; clear hb hbox hg) | ((with_reducible refine gate_dst (N := 3) rfl ?_); refine bev (#[.int .i64 a1_0, .int .i64 a1_1, .int .i64 a1_2, .string a1_3, .int .i64 a1_4]) 25 ?_; intro gb979 hg w7 hbox hb; have BK979 := Aside0.mk (hbox); have GW979 := gs hg HB; have GE979 := GW979; replace HB := sb HB hb; have NB978_979 := na hg BK978; have NB979_978 := nb hg BK978; replace BK978 := kb BK978 hb; clear hb hbox hg))
 replace BK978 := Aside0.mk (blk_drew BK978.out)
 replace BK979 := Aside0.mk (blk_drew BK979.out)
 replace HB := Aside0.mk (below_drew1 HB.out)
 refine start_ (n := 12) (S := fun w' => w'.cell? ⟨gb978, 0, none⟩ = some (.int .i64 a0_0) ∧ w'.cell? ⟨gb978, 1, none⟩ = some (.int .i64 a0_1) ∧ w'.cell? ⟨gb978, 2, none⟩ = some (.int .i64 a0_2) ∧ w'.cell? ⟨gb978, 3, none⟩ = some (.string a0_3) ∧ w'.cell? ⟨gb978, 4, none⟩ = some (.int .i64 a0_4) ∧ w'.cell? ⟨gb979, 0, none⟩ = some (.int .i64 a1_0) ∧ w'.cell? ⟨gb979, 1, none⟩ = some (.int .i64 a1_1) ∧ w'.cell? ⟨gb979, 2, none⟩ = some (.int .i64 a1_2) ∧ w'.cell? ⟨gb979, 3, none⟩ = some (.string a1_3) ∧ w'.cell? ⟨gb979, 4, none⟩ = some (.int .i64 a1_4)) (ds := []) (bts0 12) (by kernel_rfl) rfl rfl ⟨(blk_cell BK978.out 0).trans rfl, (blk_cell BK978.out 1).trans rfl, (blk_cell BK978.out 2).trans rfl, (blk_cell BK978.out 3).trans rfl, (blk_cell BK978.out 4).trans rfl, (blk_cell BK979.out 0).trans rfl, (blk_cell BK979.out 1).trans rfl, (blk_cell BK979.out 2).trans rfl, (blk_cell BK979.out 3).trans rfl, (blk_cell BK979.out 4).trans rfl⟩ (fun hHeld => ?_); refine with_tabW soffitlaw11_CalcThree.tab2 soffitlaw11_CalcThree.bits2 (fun HT_ HW_ => ?_)
 generalize w7.drew = w8 at BK978 BK979 HB hHeld ⊢
 refine pu 11 (some 19) (bts 12 2048) (any_of HT_.out (by kernel_rfl)) ?_
 refine ta 0 (some 8) (bts 12 2049) (take_ofW HT_.out HW_.out (by kernel_rfl)) hHeld ?_
 refine ta 1 (some 9) (bts 12 2051) (take_ofW HT_.out HW_.out (by kernel_rfl)) hHeld ?_
 refine ta 3 (some 11) (bts 12 2059) (take_ofW HT_.out HW_.out (by kernel_rfl)) hHeld ?_
 refine ta 4 (some 12) (bts 12 2075) (take_ofW HT_.out HW_.out (by kernel_rfl)) hHeld ?_
 refine ta 6 (some 14) (bts 12 2139) (take_ofW HT_.out HW_.out (by kernel_rfl)) hHeld ?_
 refine ta 7 (some 15) (bts 12 2267) (take_ofW HT_.out HW_.out (by kernel_rfl)) hHeld ?_
 refine one_ (i := 2) (N := some 10) (bts 12 2271) rfl rfl (one_of HT_.out (by kernel_rfl)) (by decide) (fun K hK => ?_)
 refine goes_ Tryz.func28 (by kernel_rfl) rfl #[.agg #[.int .i64 a0_0, .int .i64 a0_1, .int .i64 a0_2, .string a0_3, .int .i64 a0_4], .agg #[.int .i64 a1_0, .int .i64 a1_1, .int .i64 a1_2, .string a1_3, .int .i64 a1_4]] (by rfl) rfl rfl lz ?_
 with_reducible refine (calc_Less.calls k a0_0 a0_1 a0_2 a0_3 a0_4 a1_0 a1_1 a1_2 a1_3 a1_4 t980 t981 t982 t983 t984 _ ?side1 A3.out).mono ?_
 (case side1 => exact tabs_of HT.out (bz HB.out))
 rintro e w9 ⟨rfl, hb⟩
 refine ⟨_, rfl, ?_⟩
 replace BK978 := kb BK978 hb
 replace BK979 := kb BK979 hb
 replace HB := sb HB hb
 (try clear hb)
 (try clear hb2)
 (try clear hk)
 (try clear hi)
 refine hK.out _ _ ⟨(blk_cell BK978.out 0).trans rfl, (blk_cell BK978.out 1).trans rfl, (blk_cell BK978.out 2).trans rfl, (blk_cell BK978.out 3).trans rfl, (blk_cell BK978.out 4).trans rfl, (blk_cell BK979.out 0).trans rfl, (blk_cell BK979.out 1).trans rfl, (blk_cell BK979.out 2).trans rfl, (blk_cell BK979.out 3).trans rfl, (blk_cell BK979.out 4).trans rfl⟩ (fun hHeld => ?_)
 clear hK K
 refine norm_ (a' := ?_) ?_ ?_
 rotate_left
 ·show Act.put _ (some 10) _ = _
  simp only [Act.put, List.setIfInBounds_toArray, List.set_cons_zero, List.set_cons_succ, i64_w, i32_w]
  rfl
 refine one_ (i := 5) (N := some 13) (bts 12 2303) rfl rfl (one_of HT_.out (by kernel_rfl)) (by decide) (fun K hK => ?_)
 refine goes_ Tryz.func26 (by kernel_rfl) rfl #[.agg #[.int .i64 a0_0, .int .i64 a0_1, .int .i64 a0_2, .string a0_3, .int .i64 a0_4], .agg #[.int .i64 a1_0, .int .i64 a1_1, .int .i64 a1_2, .string a1_3, .int .i64 a1_4]] (by rfl) rfl rfl lz ?_
 with_reducible refine (calc_Equal.calls k a0_0 a0_1 a0_2 a0_3 a0_4 a1_0 a1_1 a1_2 a1_3 a1_4 t985 t986 t987 t988 t989 _ ?side1 A4.out).mono ?_
 (case side1 => exact tabs_of HT.out (bz HB.out))
 rintro e w10 ⟨rfl, hb⟩
 refine ⟨_, rfl, ?_⟩
 replace BK978 := kb BK978 hb
 replace BK979 := kb BK979 hb
 replace HB := sb HB hb
 (try clear hb)
 (try clear hb2)
 (try clear hk)
 (try clear hi)
 refine hK.out _ _ ⟨(blk_cell BK978.out 0).trans rfl, (blk_cell BK978.out 1).trans rfl, (blk_cell BK978.out 2).trans rfl, (blk_cell BK978.out 3).trans rfl, (blk_cell BK978.out 4).trans rfl, (blk_cell BK979.out 0).trans rfl, (blk_cell BK979.out 1).trans rfl, (blk_cell BK979.out 2).trans rfl, (blk_cell BK979.out 3).trans rfl, (blk_cell BK979.out 4).trans rfl⟩ (fun hHeld => ?_)
 clear hK K
 refine norm_ (a' := ?_) ?_ ?_
 rotate_left
 ·show Act.put _ (some 13) _ = _
  simp only [Act.put, List.setIfInBounds_toArray, List.set_cons_zero, List.set_cons_succ, i64_w, i32_w]
  rfl
 refine one_ (i := 8) (N := some 16) (bts 12 2559) rfl rfl (one_of HT_.out (by kernel_rfl)) (by decide) (fun K hK => ?_)
 refine goes_ Tryz.func28 (by kernel_rfl) rfl #[.agg #[.int .i64 a1_0, .int .i64 a1_1, .int .i64 a1_2, .string a1_3, .int .i64 a1_4], .agg #[.int .i64 a0_0, .int .i64 a0_1, .int .i64 a0_2, .string a0_3, .int .i64 a0_4]] (by rfl) rfl rfl lz ?_
 with_reducible refine (calc_Less.calls k a1_0 a1_1 a1_2 a1_3 a1_4 a0_0 a0_1 a0_2 a0_3 a0_4 t990 t991 t992 t993 t994 _ ?side1 A5.out).mono ?_
 (case side1 => exact tabs_of HT.out (bz HB.out))
 rintro e w11 ⟨rfl, hb⟩
 refine ⟨_, rfl, ?_⟩
 replace BK978 := kb BK978 hb
 replace BK979 := kb BK979 hb
 replace HB := sb HB hb
 (try clear hb)
 (try clear hb2)
 (try clear hk)
 (try clear hi)
 refine hK.out _ _ ⟨(blk_cell BK978.out 0).trans rfl, (blk_cell BK978.out 1).trans rfl, (blk_cell BK978.out 2).trans rfl, (blk_cell BK978.out 3).trans rfl, (blk_cell BK978.out 4).trans rfl, (blk_cell BK979.out 0).trans rfl, (blk_cell BK979.out 1).trans rfl, (blk_cell BK979.out 2).trans rfl, (blk_cell BK979.out 3).trans rfl, (blk_cell BK979.out 4).trans rfl⟩ (fun hHeld => ?_)
 clear hK K
 refine norm_ (a' := ?_) ?_ ?_
 rotate_left
 ·show Act.put _ (some 16) _ = _
  simp only [Act.put, List.setIfInBounds_toArray, List.set_cons_zero, List.set_cons_succ, i64_w, i32_w]
  rfl
 refine one_ (i := 9) (N := some 17) (bts 12 3071) rfl rfl (one_of HT_.out (by kernel_rfl)) (by decide) (fun K hK => ?_)
 refine Kd.R_lit_step k25 _ 25 ?hg (N := 17) ?hd (xs := ([(⟨t980, (⟨t981, t982⟩ : S23), t983, t984⟩ : S25), (⟨t985, (⟨t986, t987⟩ : S23), t988, t989⟩ : S25), (⟨t990, (⟨t991, t992⟩ : S23), t993, t994⟩ : S25)] : List (S25))) (inner := [.int .i64 t980, .int .i64 t981, .int .i64 t982, .string t983, .int .i64 t984, .int .i64 t985, .int .i64 t986, .int .i64 t987, .string t988, .int .i64 t989, .int .i64 t990, .int .i64 t991, .int .i64 t992, .string t993, .int .i64 t994]) (ok := fun _ => True) (okp := fun _ => True) ?hr ?hp (fun _ hk => hk) trivial (Below.refl _ _) (Nat.le_refl _) (by simp) ?_; (case hd => rfl); (case hg => rfl); (case hr => first | (go_simp; done) | (go_simp; rfl)); (case hp => exact (Reps.c5 (show Kd.M k25 _ _ _ (⟨t980, (⟨t981, t982⟩ : S23), t983, t984⟩ : S25) [.int .i64 t980, .int .i64 t981, .int .i64 t982, .string t983, .int .i64 t984] from (k25_mkM _ _ _ (⟨t980, (⟨t981, t982⟩ : S23), t983, t984⟩ : S25) )) (Reps.c5 (show Kd.M k25 _ _ _ (⟨t985, (⟨t986, t987⟩ : S23), t988, t989⟩ : S25) [.int .i64 t985, .int .i64 t986, .int .i64 t987, .string t988, .int .i64 t989] from (k25_mkM _ _ _ (⟨t985, (⟨t986, t987⟩ : S23), t988, t989⟩ : S25) )) (Reps.c5 (show Kd.M k25 _ _ _ (⟨t990, (⟨t991, t992⟩ : S23), t993, t994⟩ : S25) [.int .i64 t990, .int .i64 t991, .int .i64 t992, .string t993, .int .i64 t994] from (k25_mkM _ _ _ (⟨t990, (⟨t991, t992⟩ : S23), t993, t994⟩ : S25) )) (Reps.none _ _)))))
 intro v996 w12 ho13 hb hg_ hnew_
 clear hg_ hnew_
 (first | rw [← Ny995.out] at ho13 | (simp only [Int.reduceToNat] at ho13; rw [← Ny995.out] at ho13))
 have HO997 := Aside0.mk (Kd.R_lower (Kd.R_newB (Kd.R_newB ho13 (bk BK978.out)) (bk BK979.out)) (below_size (bz HB.out)))
 replace BK978 := kb BK978 hb
 replace BK979 := kb BK979 hb
 replace HB := sb HB hb
 clear hb ho13
 obtain ⟨Ao14, co14, eo14⟩ := Kd.R_slice HO997.out
 (first | subst eo14 | (injection eo14 with f1_ f2_ f3_; have f4_ := f1_.symm; have f5_ := f3_.symm; clear f1_ f2_ f3_; subst f4_; subst f5_))
 refine hK.out _ _ ⟨(blk_cell BK978.out 0).trans rfl, (blk_cell BK978.out 1).trans rfl, (blk_cell BK978.out 2).trans rfl, (blk_cell BK978.out 3).trans rfl, (blk_cell BK978.out 4).trans rfl, (blk_cell BK979.out 0).trans rfl, (blk_cell BK979.out 1).trans rfl, (blk_cell BK979.out 2).trans rfl, (blk_cell BK979.out 3).trans rfl, (blk_cell BK979.out 4).trans rfl⟩ (fun hHeld => ?_)
 clear hK K
 refine norm_ (a' := ?_) ?_ ?_
 rotate_left
 ·show Act.put _ (some 17) _ = _
  simp only [Act.put, List.setIfInBounds_toArray, List.set_cons_zero, List.set_cons_succ, i64_w, i32_w]
  rfl
 refine pu 10 (some 18) (bts 12 4095) (any_of HT_.out (by kernel_rfl)) ?_
 refine done_ (done_of HT_.out (by kernel_rfl)) ?_
 try go_wp2
 (try simp only [Act.put, List.setIfInBounds_toArray, List.set_cons_succ, List.set_cons_zero])
 go_loopg [5, 19] k (fun kq v5 v19 w' => ∃ (x5_1 : Int) (x19_1 : Int), v5 = .int .i64 x5_1 ∧ v19 = .int .i64 x19_1 ∧ Aside0 (soffitlaw11_CalcThree.l0 kq x5_1 y995 (y995.length : Int) x19_1 a0_0 a0_1 a0_2 a0_3 a0_4 a1_0 a1_1 a1_2 a1_3 a1_4 = some r) ∧ Aside0 (kq ≤ k) ∧ Aside0 (Kd.R k25 25 w' w.heap.size (fun k_ => k_ ≠ gb978 ∧ k_ ≠ gb979) (.slice Ao14 y995.length co14) y995) ∧ Aside0 (w'.heap[gb978]? = some (.cells #[.int .i64 a0_0, .int .i64 a0_1, .int .i64 a0_2, .string a0_3, .int .i64 a0_4] 25 (0, 0))) ∧ Aside0 (w'.heap[gb979]? = some (.cells #[.int .i64 a1_0, .int .i64 a1_1, .int .i64 a1_2, .string a1_3, .int .i64 a1_4] 25 (0, 0))) ∧ Aside0 (Below w.heap.size w w'))
 case atStart => exact ⟨(0), (0), sz, sz, H', ⟨Nat.le_refl _⟩, ⟨by (with_reducible repeat (first | apply Kd.R_alloc | apply Kd.R_drewN | apply Kd.R_drew)); exact Kd.R_mono HO997.out (fun _ hk => ⟨hk.1.2, hk.2⟩)⟩, ⟨bk BK978.out⟩, ⟨bk BK979.out⟩, ⟨bz HB.out⟩⟩
 case round =>
  clear H'
  try clear c5
  obtain ⟨x5_1, x19_1, rfl, rfl, HA, HK1, HO_17, BK978, BK979, HB⟩ := hrel
  cases gk with
  | zero => exact absurd HA.out (by simp [soffitlaw11_CalcThree.l0])
  | succ k1 =>
   have H := HA.out
   clear HA
   simp only [soffitlaw11_CalcThree.l0] at H
   by_cases c15 : x19_1 < (y995.length : Int)
   ·rw [if_pos c15] at H
    have c15b0 : decide (x19_1 < (y995.length : Int)) = true := decide_eq_true c15
    clear c15
    by_cases c16 : 0 ≤ x19_1
    ·rw [if_pos c16] at H
     have c16b0 : decide (0 ≤ x19_1) = true := decide_eq_true c16
     clear c16
     by_cases c17 : x19_1 < (y995.length : Int)
     ·rw [if_pos c17] at H
      have c17b0 : decide (x19_1 < (y995.length : Int)) = true := decide_eq_true c17
      clear c17
      replace H := Option.bind_eq_some_iff.mp H
      obtain ⟨⟨t1000, t1001, t1002, t1003, t1004⟩, A180, H⟩ := H
      replace H : (if (((rd_T25 y995 x19_1).f0) == t1000 && ((((rd_T25 y995 x19_1).f1.f0) == t1001 && (((rd_T25 y995 x19_1).f1.f1) == t1002)) && ((((rd_T25 y995 x19_1).f2).toList) == t1003.toList && (((rd_T25 y995 x19_1).f3) == t1004)))) = true then (soffitlaw11_CalcThree.l0 k1 (wrap64 (x5_1 + 1)) y995 (y995.length : Int) (wrap64 (x19_1 + 1)) a0_0 a0_1 a0_2 a0_3 a0_4 a1_0 a1_1 a1_2 a1_3 a1_4) else (soffitlaw11_CalcThree.l0 k1 x5_1 y995 (y995.length : Int) (wrap64 (x19_1 + 1)) a0_0 a0_1 a0_2 a0_3 a0_4 a1_0 a1_1 a1_2 a1_3 a1_4)) = some r := H
      have A18 := Aside0.mk A180
      clear A180
      have HC19 := Aside0.mk H
      clear H
      have p998 : 0 ≤ (x19_1 : Int) := of_decide_eq_true tz
      have q998 : x19_1 < (y995.length : Int) := of_decide_eq_true tz
      obtain ⟨ad998, e998, hx998_0, hx998_1, hx998_2, hx998_3, hx998_4⟩ := at_T25 (Kd.R_reads' HO_17.out).2.2 x19_1 p998 q998
      cases e998
      replace p998 := eq_true p998
      replace q998 := eq_true q998
      try go_wp2_with (first | ((with_reducible refine gate_dst (N := 7) rfl ?_); refine bev (#[.int .i64 0, .int .i64 0, .int .i64 0, .string (⟨#[]⟩ : ByteArray), .int .i64 0]) 25 ?_; intro gb999 hg w20 hbox hb; replace HO_17 := Aside0.mk (Kd.R_below (Kd.R_elderB (rr HO_17.out) gb999 (Nat.le_of_eq hg.symm)) hb); have BK999 := Aside0.mk (hbox); have GW999 := gs hg HB; have GE999 := GW999; replace HB := sb HB hb; have NB978_999 := na hg BK978; have NB999_978 := nb hg BK978; replace BK978 := kb BK978 hb; have NB979_999 := na hg BK979; have NB999_979 := nb hg BK979; replace BK979 := kb BK979 hb; clear hb hbox hg; have hnb21 := NB999_978.out; have hnc21 := NB978_999.out; have hnb22 := NB999_979.out; have hnc22 := NB979_999.out; obtain ⟨Z23_0, Z23_1, Z23_2, Z23_3, Z23_4, F23_0, F23_1, F23_2, F23_3, F23_4⟩ := cz5 BK999.out))
      have n0_ : Aside0 (Kd.R k25 25 (((((w20.setCell ⟨gb999, 0, none⟩ (.int .i64 ((rd_T25 y995 x19_1).f0))).setCell ⟨gb999, 1, none⟩ (.int .i64 ((rd_T25 y995 x19_1).f1.f0))).setCell ⟨gb999, 2, none⟩ (.int .i64 ((rd_T25 y995 x19_1).f1.f1))).setCell ⟨gb999, 3, none⟩ (.string ((rd_T25 y995 x19_1).f2))).setCell ⟨gb999, 4, none⟩ (.int .i64 ((rd_T25 y995 x19_1).f3))) w.heap.size (fun k_ => k_ ≠ gb978 ∧ k_ ≠ gb979 ∧ k_ ≠ gb999) (.slice (some ad998) y995.length co14) y995) := ⟨vfR HO_17.out⟩
      have n1_ : Aside0 ((((((w20.setCell ⟨gb999, 0, none⟩ (.int .i64 ((rd_T25 y995 x19_1).f0))).setCell ⟨gb999, 1, none⟩ (.int .i64 ((rd_T25 y995 x19_1).f1.f0))).setCell ⟨gb999, 2, none⟩ (.int .i64 ((rd_T25 y995 x19_1).f1.f1))).setCell ⟨gb999, 3, none⟩ (.string ((rd_T25 y995 x19_1).f2))).setCell ⟨gb999, 4, none⟩ (.int .i64 ((rd_T25 y995 x19_1).f3))).heap[gb978]? = some (.cells #[.int .i64 a0_0, .int .i64 a0_1, .int .i64 a0_2, .string a0_3, .int .i64 a0_4] 25 (0, 0))) := ⟨bp BK978.out⟩
      have n2_ : Aside0 ((((((w20.setCell ⟨gb999, 0, none⟩ (.int .i64 ((rd_T25 y995 x19_1).f0))).setCell ⟨gb999, 1, none⟩ (.int .i64 ((rd_T25 y995 x19_1).f1.f0))).setCell ⟨gb999, 2, none⟩ (.int .i64 ((rd_T25 y995 x19_1).f1.f1))).setCell ⟨gb999, 3, none⟩ (.string ((rd_T25 y995 x19_1).f2))).setCell ⟨gb999, 4, none⟩ (.int .i64 ((rd_T25 y995 x19_1).f3))).heap[gb979]? = some (.cells #[.int .i64 a1_0, .int .i64 a1_1, .int .i64 a1_2, .string a1_3, .int .i64 a1_4] 25 (0, 0))) := ⟨bp BK979.out⟩
      have n3_ : Aside0 ((((((w20.setCell ⟨gb999, 0, none⟩ (.int .i64 ((rd_T25 y995 x19_1).f0))).setCell ⟨gb999, 1, none⟩ (.int .i64 ((rd_T25 y995 x19_1).f1.f0))).setCell ⟨gb999, 2, none⟩ (.int .i64 ((rd_T25 y995 x19_1).f1.f1))).setCell ⟨gb999, 3, none⟩ (.string ((rd_T25 y995 x19_1).f2))).setCell ⟨gb999, 4, none⟩ (.int .i64 ((rd_T25 y995 x19_1).f3))).heap[gb999]? = some (.cells #[.int .i64 ((rd_T25 y995 x19_1).f0), .int .i64 ((rd_T25 y995 x19_1).f1.f0), .int .i64 ((rd_T25 y995 x19_1).f1.f1), .string ((rd_T25 y995 x19_1).f2), .int .i64 ((rd_T25 y995 x19_1).f3)] 25 (0, 0))) := ⟨bp BK999.out⟩
      have n4_ : Aside0 (Below w.heap.size w (((((w20.setCell ⟨gb999, 0, none⟩ (.int .i64 ((rd_T25 y995 x19_1).f0))).setCell ⟨gb999, 1, none⟩ (.int .i64 ((rd_T25 y995 x19_1).f1.f0))).setCell ⟨gb999, 2, none⟩ (.int .i64 ((rd_T25 y995 x19_1).f1.f1))).setCell ⟨gb999, 3, none⟩ (.string ((rd_T25 y995 x19_1).f2))).setCell ⟨gb999, 4, none⟩ (.int .i64 ((rd_T25 y995 x19_1).f3)))) := ⟨bz HB.out⟩
      (try clear HO_17)
      (try clear BK978)
      (try clear BK979)
      (try clear BK999)
      (try clear HB)
      generalize (((((w20.setCell ⟨gb999, 0, none⟩ (.int .i64 ((rd_T25 y995 x19_1).f0))).setCell ⟨gb999, 1, none⟩ (.int .i64 ((rd_T25 y995 x19_1).f1.f0))).setCell ⟨gb999, 2, none⟩ (.int .i64 ((rd_T25 y995 x19_1).f1.f1))).setCell ⟨gb999, 3, none⟩ (.string ((rd_T25 y995 x19_1).f2))).setCell ⟨gb999, 4, none⟩ (.int .i64 ((rd_T25 y995 x19_1).f3))) = w24 at n0_ n1_ n2_ n3_ n4_ ⊢
      have HO_17 := n0_
      have BK978 := n1_
      have BK979 := n2_
      have BK999 := n3_
      have HB := n4_
      clear n0_ n1_ n2_ n3_ n4_
      replace HO_17 := Aside0.mk (Kd.R_drew HO_17.out)
      replace BK978 := Aside0.mk (blk_drew BK978.out)
      replace BK979 := Aside0.mk (blk_drew BK979.out)
      replace BK999 := Aside0.mk (blk_drew BK999.out)
      replace HB := Aside0.mk (below_drew1 HB.out)
      refine start_ (n := 3) (S := fun w' => w'.cell? ⟨gb999, 0, none⟩ = some (.int .i64 ((rd_T25 y995 x19_1).f0)) ∧ w'.cell? ⟨gb999, 1, none⟩ = some (.int .i64 ((rd_T25 y995 x19_1).f1.f0)) ∧ w'.cell? ⟨gb999, 2, none⟩ = some (.int .i64 ((rd_T25 y995 x19_1).f1.f1)) ∧ w'.cell? ⟨gb999, 3, none⟩ = some (.string ((rd_T25 y995 x19_1).f2)) ∧ w'.cell? ⟨gb999, 4, none⟩ = some (.int .i64 ((rd_T25 y995 x19_1).f3))) (ds := []) #[false, false, false] (by kernel_rfl) rfl rfl ⟨(blk_cell BK999.out 0).trans rfl, (blk_cell BK999.out 1).trans rfl, (blk_cell BK999.out 2).trans rfl, (blk_cell BK999.out 3).trans rfl, (blk_cell BK999.out 4).trans rfl⟩ (fun hHeld => ?_)
      generalize w24.drew = w25 at HO_17 BK978 BK979 BK999 HB hHeld ⊢
      refine ta 0 (some 23) (bts 3 1) (by kernel_rfl) hHeld ?_
      refine one_ (i := 1) (N := some 24) (bts 3 3) rfl rfl (by kernel_rfl) (by decide) (fun K hK => ?_)
      refine goes_ Tryz.func16 (by kernel_rfl) rfl #[.bool true] (by rfl) rfl rfl lz ?_
      with_reducible refine (soffitref10_Truth.calls true t1000 t1001 t1002 t1003 t1004 _ A18.out).mono ?_
      rintro e w26 ⟨rfl, hb⟩
      refine ⟨_, rfl, ?_⟩
      replace HO_17 := Aside0.mk (Kd.R_below (rr HO_17.out) hb)
      replace BK978 := kb BK978 hb
      replace BK979 := kb BK979 hb
      replace BK999 := kb BK999 hb
      replace HB := sb HB hb
      (try clear hb)
      (try clear hb2)
      (try clear hk)
      (try clear hi)
      refine hK.out _ _ ⟨(blk_cell BK999.out 0).trans rfl, (blk_cell BK999.out 1).trans rfl, (blk_cell BK999.out 2).trans rfl, (blk_cell BK999.out 3).trans rfl, (blk_cell BK999.out 4).trans rfl⟩ (fun hHeld => ?_)
      clear hK K
      refine norm_ (a' := ?_) ?_ ?_
      rotate_left
      ·show Act.put _ (some 24) _ = _
       simp only [Act.put, List.setIfInBounds_toArray, List.set_cons_zero, List.set_cons_succ, i64_w, i32_w]
       rfl
      refine pu 2 (some 25) (bts 3 7) (by kernel_rfl) ?_
      refine done_ (by kernel_rfl) ?_
      go_upto_if 25 with (fail)
      have H := HC19.out
      clear HC19
      clear hx998_0 Z23_0 Z23_1 Z23_2 Z23_3 Z23_4 F23_0 F23_1 F23_2 F23_3 F23_4 hx998_1 hx998_2 hx998_3 hx998_4
      by_cases c27 : (((rd_T25 y995 x19_1).f0) == t1000 && ((((rd_T25 y995 x19_1).f1.f0) == t1001 && (((rd_T25 y995 x19_1).f1.f1) == t1002)) && ((((rd_T25 y995 x19_1).f2).toList) == t1003.toList && (((rd_T25 y995 x19_1).f3) == t1004)))) = true
      ·rw [if_pos c27] at H
       have c27b0 : (((rd_T25 y995 x19_1).f0) == t1000 && ((((rd_T25 y995 x19_1).f1.f0) == t1001 && (((rd_T25 y995 x19_1).f1.f1) == t1002)) && ((((rd_T25 y995 x19_1).f2).toList) == t1003.toList && (((rd_T25 y995 x19_1).f3) == t1004)))) = true := c27
       (try (have c27b1 : decide (((rd_T25 y995 x19_1).f0) = t1000 && ((((rd_T25 y995 x19_1).f1.f0) == t1001 && (((rd_T25 y995 x19_1).f1.f1) == t1002)) && ((((rd_T25 y995 x19_1).f2).toList) == t1003.toList && (((rd_T25 y995 x19_1).f3) == t1004)))) = true := by simpa using c27))
       (try (have c27b2 : (((rd_T25 y995 x19_1).f0) == t1000 && ((((rd_T25 y995 x19_1).f1.f0) == t1001 && (((rd_T25 y995 x19_1).f1.f1) == t1002)) && ((((rd_T25 y995 x19_1).f2).toList) == t1003.toList && (((rd_T25 y995 x19_1).f3) == t1004)))) = true := by simpa using c27))
       clear c27
       (first | rw [c27b0] | (simp only [i64_w, i32_w]; rw [c27b0]) | skip)
       have H' := Aside0.mk H
       clear H
       go_wp2
       go_roundg k1
       case measure => have := HK1.out; omega
       case rel => exact ⟨(wrap64 (x5_1 + 1)), (wrap64 (x19_1 + 1)), sz, sz, H', ⟨by have := HK1.out; omega⟩, ⟨by (with_reducible repeat (first | apply Kd.R_alloc | apply Kd.R_drewN | apply Kd.R_drew)); exact Kd.R_mono HO_17.out (fun _ hk => ⟨hk.1, hk.2.1⟩)⟩, ⟨bk BK978.out⟩, ⟨bk BK979.out⟩, ⟨bz HB.out⟩⟩
      ·rw [if_neg c27] at H
       have c27b0 : (((rd_T25 y995 x19_1).f0) == t1000 && ((((rd_T25 y995 x19_1).f1.f0) == t1001 && (((rd_T25 y995 x19_1).f1.f1) == t1002)) && ((((rd_T25 y995 x19_1).f2).toList) == t1003.toList && (((rd_T25 y995 x19_1).f3) == t1004)))) = false := by simpa using c27
       (try (have c27b1 : decide (((rd_T25 y995 x19_1).f0) = t1000 && ((((rd_T25 y995 x19_1).f1.f0) == t1001 && (((rd_T25 y995 x19_1).f1.f1) == t1002)) && ((((rd_T25 y995 x19_1).f2).toList) == t1003.toList && (((rd_T25 y995 x19_1).f3) == t1004)))) = false := by simpa using c27))
       (try (have c27b2 : (((rd_T25 y995 x19_1).f0) == t1000 && ((((rd_T25 y995 x19_1).f1.f0) == t1001 && (((rd_T25 y995 x19_1).f1.f1) == t1002)) && ((((rd_T25 y995 x19_1).f2).toList) == t1003.toList && (((rd_T25 y995 x19_1).f3) == t1004)))) = false := by simpa using c27))
       (try (have c27b3 : ¬ (((rd_T25 y995 x19_1).f0) = t1000 && ((((rd_T25 y995 x19_1).f1.f0) == t1001 && (((rd_T25 y995 x19_1).f1.f1) == t1002)) && ((((rd_T25 y995 x19_1).f2).toList) == t1003.toList && (((rd_T25 y995 x19_1).f3) == t1004)))) := by simpa using c27))
       clear c27
       (first | rw [c27b0] | (simp only [i64_w, i32_w]; rw [c27b0]) | skip)
       have H' := Aside0.mk H
       clear H
       go_wp2
       go_roundg k1
       case measure => have := HK1.out; omega
       case rel => exact ⟨(x5_1), (wrap64 (x19_1 + 1)), sz, sz, H', ⟨by have := HK1.out; omega⟩, ⟨by (with_reducible repeat (first | apply Kd.R_alloc | apply Kd.R_drewN | apply Kd.R_drew)); exact Kd.R_mono HO_17.out (fun _ hk => ⟨hk.1, hk.2.1⟩)⟩, ⟨bk BK978.out⟩, ⟨bk BK979.out⟩, ⟨bz HB.out⟩⟩
     ·rw [if_neg c17] at H
      exact absurd H (by simp)
    ·rw [if_neg c16] at H
     exact absurd H (by simp)
   ·rw [if_neg c15] at H
    have c15b0 : decide (x19_1 < (y995.length : Int)) = false := decide_eq_false c15
    clear c15
    have HC28 := Aside0.mk H
    clear H
    go_upto_region 8 with (fail)
    go_cut [40] (fun v40 wc => ∃ (kq : Nat) (x40_27 : Bool), v40 = .bool x40_27 ∧ Aside0 (soffitlaw11_CalcThree.j1 kq x5_1 x40_27 a0_0 a0_1 a0_2 a0_3 a0_4 a1_0 a1_1 a1_2 a1_3 a1_4 = some r) ∧ Aside0 (kq ≤ k1) ∧ Aside0 (wc.heap[gb978]? = some (.cells #[.int .i64 a0_0, .int .i64 a0_1, .int .i64 a0_2, .string a0_3, .int .i64 a0_4] 25 (0, 0))) ∧ Aside0 (wc.heap[gb979]? = some (.cells #[.int .i64 a1_0, .int .i64 a1_1, .int .i64 a1_2, .string a1_3, .int .i64 a1_4] 25 (0, 0))) ∧ Aside0 (Below w.heap.size w wc))
    case first =>
     have H := HC28.out
     clear HC28
     replace H := Option.bind_eq_some_iff.mp H
     obtain ⟨t1005, A290, H⟩ := H
     replace H : (if t1005 = true then ((soffitref04_Sound.f k1 a0_0 a0_1 a0_2 a0_3 a0_4).bind fun t1006 => (if t1006 = true then ((soffitref04_Sound.f k1 a1_0 a1_1 a1_2 a1_3 a1_4).bind fun t1007 => (soffitlaw11_CalcThree.j1 k1 x5_1 (!t1007) a0_0 a0_1 a0_2 a0_3 a0_4 a1_0 a1_1 a1_2 a1_3 a1_4)) else (soffitlaw11_CalcThree.j1 k1 x5_1 true a0_0 a0_1 a0_2 a0_3 a0_4 a1_0 a1_1 a1_2 a1_3 a1_4))) else (soffitlaw11_CalcThree.j1 k1 x5_1 true a0_0 a0_1 a0_2 a0_3 a0_4 a1_0 a1_1 a1_2 a1_3 a1_4)) = some r := H
     have A29 := Aside0.mk A290
     clear A290
     by_cases c30 : t1005 = true
     ·subst c30
      have H1 : ((soffitref04_Sound.f k1 a0_0 a0_1 a0_2 a0_3 a0_4).bind fun t1006 => (if t1006 = true then ((soffitref04_Sound.f k1 a1_0 a1_1 a1_2 a1_3 a1_4).bind fun t1007 => (soffitlaw11_CalcThree.j1 k1 x5_1 (!t1007) a0_0 a0_1 a0_2 a0_3 a0_4 a1_0 a1_1 a1_2 a1_3 a1_4)) else (soffitlaw11_CalcThree.j1 k1 x5_1 true a0_0 a0_1 a0_2 a0_3 a0_4 a1_0 a1_1 a1_2 a1_3 a1_4))) = some r := by rw [if_pos rfl] at H; exact H
      clear H
      have H := H1
      clear H1
      replace H := Option.bind_eq_some_iff.mp H
      obtain ⟨t1006, A310, H⟩ := H
      replace H : (if t1006 = true then ((soffitref04_Sound.f k1 a1_0 a1_1 a1_2 a1_3 a1_4).bind fun t1007 => (soffitlaw11_CalcThree.j1 k1 x5_1 (!t1007) a0_0 a0_1 a0_2 a0_3 a0_4 a1_0 a1_1 a1_2 a1_3 a1_4)) else (soffitlaw11_CalcThree.j1 k1 x5_1 true a0_0 a0_1 a0_2 a0_3 a0_4 a1_0 a1_1 a1_2 a1_3 a1_4)) = some r := H
      have A31 := Aside0.mk A310
      clear A310
      by_cases c32 : t1006 = true
      ·subst c32
       have H1 : ((soffitref04_Sound.f k1 a1_0 a1_1 a1_2 a1_3 a1_4).bind fun t1007 => (soffitlaw11_CalcThree.j1 k1 x5_1 (!t1007) a0_0 a0_1 a0_2 a0_3 a0_4 a1_0 a1_1 a1_2 a1_3 a1_4)) = some r := by rw [if_pos rfl] at H; exact H
       clear H
       have H := H1
       clear H1
       replace H := Option.bind_eq_some_iff.mp H
       obtain ⟨t1007, A330, H⟩ := H
       replace H : (soffitlaw11_CalcThree.j1 k1 x5_1 (!t1007) a0_0 a0_1 a0_2 a0_3 a0_4 a1_0 a1_1 a1_2 a1_3 a1_4) = some r := H
       have A33 := Aside0.mk A330
       clear A330
       have H' := Aside0.mk H
       clear H
       go_wp2_with (first | ((with_reducible refine gate_callee (f := 14) rfl ?_); refine gl_ (some 29) Tryz.func14 (by kernel_rfl) #[] rfl ?_; (with_reducible refine (soffitlaw11_awake.calls k1  true _ ?side1 A29.out).mono ?_); (case side1 => exact tabs_of HT.out (bz HB.out)); rintro e w34 ⟨rfl, hb⟩; refine ⟨_, rfl, ?_⟩; replace HO_17 := Aside0.mk (Kd.R_below (rr HO_17.out) hb); replace BK978 := kb BK978 hb; replace BK979 := kb BK979 hb; replace HB := sb HB hb; clear hb; have hnb35 := NB978_979.out; have hnc35 := NB979_978.out; obtain ⟨Z36_0, Z36_1, Z36_2, Z36_3, Z36_4, F36_0, F36_1, F36_2, F36_3, F36_4⟩ := cz5 BK978.out) | (go_at_call 15; (with_reducible refine (soffitref04_Sound.calls k1 a0_0 a0_1 a0_2 a0_3 a0_4 true _ A31.out).mono ?_); rintro e w37 ⟨rfl, hb⟩; replace HO_17 := Aside0.mk (Kd.R_below (rr HO_17.out) hb); replace BK978 := kb BK978 hb; replace BK979 := kb BK979 hb; replace HB := sb HB hb; clear hb; obtain ⟨Z38_0, Z38_1, Z38_2, Z38_3, Z38_4, F38_0, F38_1, F38_2, F38_3, F38_4⟩ := cz5 BK979.out) | (go_at_call 15; (with_reducible refine (soffitref04_Sound.calls k1 a1_0 a1_1 a1_2 a1_3 a1_4 t1007 _ A33.out).mono ?_); rintro e w39 ⟨rfl, hb⟩; replace HO_17 := Aside0.mk (Kd.R_below (rr HO_17.out) hb); replace BK978 := kb BK978 hb; replace BK979 := kb BK979 hb; replace HB := sb HB hb; clear hb))
       go_meet
       case rel => exact ⟨_, (!t1007), sz, H', ⟨by have := HK1.out; first | omega | exact Nat.le_refl _⟩, ⟨bk BK978.out⟩, ⟨bk BK979.out⟩, ⟨bz HB.out⟩⟩
      ·replace c32 := Bool.eq_false_iff.mpr c32
       subst c32
       have H1 : (soffitlaw11_CalcThree.j1 k1 x5_1 true a0_0 a0_1 a0_2 a0_3 a0_4 a1_0 a1_1 a1_2 a1_3 a1_4) = some r := by rw [if_neg (show ¬ (false = true) by decide)] at H; exact H
       clear H
       have H := H1
       clear H1
       have H' := Aside0.mk H
       clear H
       go_wp2_with (first | ((with_reducible refine gate_callee (f := 14) rfl ?_); refine gl_ (some 29) Tryz.func14 (by kernel_rfl) #[] rfl ?_; (with_reducible refine (soffitlaw11_awake.calls k1  true _ ?side1 A29.out).mono ?_); (case side1 => exact tabs_of HT.out (bz HB.out)); rintro e w40 ⟨rfl, hb⟩; refine ⟨_, rfl, ?_⟩; replace HO_17 := Aside0.mk (Kd.R_below (rr HO_17.out) hb); replace BK978 := kb BK978 hb; replace BK979 := kb BK979 hb; replace HB := sb HB hb; clear hb; have hnb41 := NB978_979.out; have hnc41 := NB979_978.out; obtain ⟨Z42_0, Z42_1, Z42_2, Z42_3, Z42_4, F42_0, F42_1, F42_2, F42_3, F42_4⟩ := cz5 BK978.out) | (go_at_call 15; (with_reducible refine (soffitref04_Sound.calls k1 a0_0 a0_1 a0_2 a0_3 a0_4 false _ A31.out).mono ?_); rintro e w43 ⟨rfl, hb⟩; replace HO_17 := Aside0.mk (Kd.R_below (rr HO_17.out) hb); replace BK978 := kb BK978 hb; replace BK979 := kb BK979 hb; replace HB := sb HB hb; clear hb))
       go_meet
       case rel => exact ⟨_, (true), sz, H', ⟨by have := HK1.out; first | omega | exact Nat.le_refl _⟩, ⟨bk BK978.out⟩, ⟨bk BK979.out⟩, ⟨bz HB.out⟩⟩
     ·replace c30 := Bool.eq_false_iff.mpr c30
      subst c30
      have H1 : (soffitlaw11_CalcThree.j1 k1 x5_1 true a0_0 a0_1 a0_2 a0_3 a0_4 a1_0 a1_1 a1_2 a1_3 a1_4) = some r := by rw [if_neg (show ¬ (false = true) by decide)] at H; exact H
      clear H
      have H := H1
      clear H1
      have H' := Aside0.mk H
      clear H
      go_wp2_with (first | ((with_reducible refine gate_callee (f := 14) rfl ?_); refine gl_ (some 29) Tryz.func14 (by kernel_rfl) #[] rfl ?_; (with_reducible refine (soffitlaw11_awake.calls k1  false _ ?side1 A29.out).mono ?_); (case side1 => exact tabs_of HT.out (bz HB.out)); rintro e w44 ⟨rfl, hb⟩; refine ⟨_, rfl, ?_⟩; replace HO_17 := Aside0.mk (Kd.R_below (rr HO_17.out) hb); replace BK978 := kb BK978 hb; replace BK979 := kb BK979 hb; replace HB := sb HB hb; clear hb))
      go_meet
      case rel => exact ⟨_, (true), sz, H', ⟨by have := HK1.out; first | omega | exact Nat.le_refl _⟩, ⟨bk BK978.out⟩, ⟨bk BK979.out⟩, ⟨bz HB.out⟩⟩
    case rest =>
     clear HC28
     try clear c5; try clear c15; try clear c15b0; try clear c16; try clear c16b0; try clear c17; try clear c17b0; try clear c27; try clear c27b0; try clear c27b1; try clear c27b2; try clear Z23_0; try clear Z23_1; try clear Z23_2; try clear Z23_3; try clear Z23_4; try clear F23_0; try clear F23_1; try clear F23_2; try clear F23_3; try clear F23_4; try clear hx998_0; try clear hx998_1; try clear hx998_2; try clear hx998_3; try clear hx998_4; try clear p998; try clear q998
     obtain ⟨kq, x40_27, rfl, HA, HJ27, BK978, BK979, HB⟩ := hcut
     cases kq with
     | zero => exact absurd HA.out (by simp [soffitlaw11_CalcThree.j1])
     | succ kj27 =>
      have H := HA.out
      clear HA
      simp only [soffitlaw11_CalcThree.j1] at H
      by_cases c45 : x40_27 = true
      ·subst c45
       have H1 : ((soffitlaw11_awake.f kj27).bind fun t1008 => (if t1008 = true then (some (x5_1 == 0)) else (some false))) = some r := by rw [if_pos rfl] at H; exact H
       clear H
       have H := H1
       clear H1
       replace H := Option.bind_eq_some_iff.mp H
       obtain ⟨t1008, A460, H⟩ := H
       replace H : (if t1008 = true then (some (x5_1 == 0)) else (some false)) = some r := H
       have A46 := Aside0.mk A460
       clear A460
       by_cases c47 : t1008 = true
       ·subst c47
        have H1 : (some (x5_1 == 0)) = some r := by rw [if_pos rfl] at H; exact H
        clear H
        have H := H1
        clear H1
        obtain rfl := Option.some.inj H
        go_wp2_with (first | ((with_reducible refine gate_callee (f := 14) rfl ?_); refine gl_ (some 41) Tryz.func14 (by kernel_rfl) #[] rfl ?_; (with_reducible refine (soffitlaw11_awake.calls kj27  true _ ?side1 A46.out).mono ?_); (case side1 => exact tabs_of HT.out (bz HB.out)); rintro e w48 ⟨rfl, hb⟩; refine ⟨_, rfl, ?_⟩; replace BK978 := kb BK978 hb; replace BK979 := kb BK979 hb; replace HB := sb HB hb; clear hb))
        go_ret
        exact ⟨az, bz HB.out⟩
       ·replace c47 := Bool.eq_false_iff.mpr c47
        subst c47
        have H1 : (some false) = some r := by rw [if_neg (show ¬ (false = true) by decide)] at H; exact H
        clear H
        have H := H1
        clear H1
        exact absurd HR.out (by rw [← Option.some.inj H]; simp)
      ·replace c45 := Bool.eq_false_iff.mpr c45
       subst c45
       have H1 : (if a0_0 = a1_0 then (if a0_0 = 3 then (soffitlaw11_CalcThree.j2 kj27 x5_1 false a0_0 a0_1 a0_2 a0_3 a0_4 a1_0 a1_1 a1_2 a1_3 a1_4) else (soffitlaw11_CalcThree.j2 kj27 x5_1 (a0_0 != 0) a0_0 a0_1 a0_2 a0_3 a0_4 a1_0 a1_1 a1_2 a1_3 a1_4)) else (soffitlaw11_CalcThree.j2 kj27 x5_1 false a0_0 a0_1 a0_2 a0_3 a0_4 a1_0 a1_1 a1_2 a1_3 a1_4)) = some r := by rw [if_neg (show ¬ (false = true) by decide)] at H; exact H
       clear H
       have H := H1
       clear H1
       have HC49 := Aside0.mk H
       clear H
       go_upto_region 10 with (fail)
       go_cut [60] (fun v60 wc => ∃ (kq : Nat) (x60_48 : Bool), v60 = .bool x60_48 ∧ Aside0 (soffitlaw11_CalcThree.j2 kq x5_1 x60_48 a0_0 a0_1 a0_2 a0_3 a0_4 a1_0 a1_1 a1_2 a1_3 a1_4 = some r) ∧ Aside0 (kq ≤ kj27) ∧ Aside0 (wc.heap[gb978]? = some (.cells #[.int .i64 a0_0, .int .i64 a0_1, .int .i64 a0_2, .string a0_3, .int .i64 a0_4] 25 (0, 0))) ∧ Aside0 (wc.heap[gb979]? = some (.cells #[.int .i64 a1_0, .int .i64 a1_1, .int .i64 a1_2, .string a1_3, .int .i64 a1_4] 25 (0, 0))) ∧ Aside0 (Below w.heap.size w wc))
       case first =>
        have H := HC49.out
        clear HC49
        by_cases c50 : a0_0 = a1_0
        ·replace H := ipe c50 H
         obtain ⟨H, c50b0, c50b1⟩ := H
         clear c50
         (first | rw [c50b0] | (simp only [i64_w, i32_w]; rw [c50b0]) | skip)
         by_cases c51 : a0_0 = 3
         ·replace H := ipe c51 H
          obtain ⟨H, c51b0, c51b1⟩ := H
          clear c51
          have H' := Aside0.mk H
          clear H
          have hnb52 := NB978_979.out
          have hnc52 := NB979_978.out
          obtain ⟨Z53_0, Z53_1, Z53_2, Z53_3, Z53_4, F53_0, F53_1, F53_2, F53_3, F53_4⟩ := cz5 BK978.out
          obtain ⟨Z54_0, Z54_1, Z54_2, Z54_3, Z54_4, F54_0, F54_1, F54_2, F54_3, F54_4⟩ := cz5 BK979.out
          go_wp2
          go_meet
          case rel => exact ⟨_, (false), sz, H', ⟨by have := HK1.out; have := HJ27.out; first | omega | exact Nat.le_refl _⟩, ⟨bk BK978.out⟩, ⟨bk BK979.out⟩, ⟨bz HB.out⟩⟩
         ·replace H := ine c51 H
          obtain ⟨H, c51b0, c51b1⟩ := H
          have H' := Aside0.mk H
          clear H
          have hnb55 := NB978_979.out
          have hnc55 := NB979_978.out
          obtain ⟨Z56_0, Z56_1, Z56_2, Z56_3, Z56_4, F56_0, F56_1, F56_2, F56_3, F56_4⟩ := cz5 BK978.out
          obtain ⟨Z57_0, Z57_1, Z57_2, Z57_3, Z57_4, F57_0, F57_1, F57_2, F57_3, F57_4⟩ := cz5 BK979.out
          go_wp2
          go_meet
          case rel => exact ⟨_, ((a0_0 != 0)), sz, H', ⟨by have := HK1.out; have := HJ27.out; first | omega | exact Nat.le_refl _⟩, ⟨bk BK978.out⟩, ⟨bk BK979.out⟩, ⟨bz HB.out⟩⟩
        ·replace H := ine c50 H
         obtain ⟨H, c50b0, c50b1⟩ := H
         (first | rw [c50b0] | (simp only [i64_w, i32_w]; rw [c50b0]) | skip)
         have H' := Aside0.mk H
         clear H
         have hnb58 := NB978_979.out
         have hnc58 := NB979_978.out
         obtain ⟨Z59_0, Z59_1, Z59_2, Z59_3, Z59_4, F59_0, F59_1, F59_2, F59_3, F59_4⟩ := cz5 BK978.out
         obtain ⟨Z60_0, Z60_1, Z60_2, Z60_3, Z60_4, F60_0, F60_1, F60_2, F60_3, F60_4⟩ := cz5 BK979.out
         go_wp2
         go_meet
         case rel => exact ⟨_, (false), sz, H', ⟨by have := HK1.out; have := HJ27.out; first | omega | exact Nat.le_refl _⟩, ⟨bk BK978.out⟩, ⟨bk BK979.out⟩, ⟨bz HB.out⟩⟩
       case rest =>
        clear HC49
        try clear c5; try clear c15; try clear c15b0; try clear c16; try clear c16b0; try clear c17; try clear c17b0; try clear c27; try clear c27b0; try clear c27b1; try clear c27b2; try clear c30; try clear c32; try clear c45; try clear c47; try clear Z23_0; try clear Z23_1; try clear Z23_2; try clear Z23_3; try clear Z23_4; try clear Z36_0; try clear Z36_1; try clear Z36_2; try clear Z36_3; try clear Z36_4; try clear Z38_0; try clear Z38_1; try clear Z38_2; try clear Z38_3; try clear Z38_4; try clear Z42_0; try clear Z42_1; try clear Z42_2; try clear Z42_3; try clear Z42_4; try clear F23_0; try clear F23_1; try clear F23_2; try clear F23_3; try clear F23_4; try clear F36_0; try clear F36_1; try clear F36_2; try clear F36_3; try clear F36_4; try clear F38_0; try clear F38_1; try clear F38_2; try clear F38_3; try clear F38_4; try clear F42_0; try clear F42_1; try clear F42_2; try clear F42_3; try clear F42_4; try clear hx998_0; try clear hx998_1; try clear hx998_2; try clear hx998_3; try clear hx998_4; try clear p998; try clear q998
        obtain ⟨kq, x60_48, rfl, HA, HJ48, BK978, BK979, HB⟩ := hcut
        cases kq with
        | zero => exact absurd HA.out (by simp [soffitlaw11_CalcThree.j2])
        | succ kj48 =>
         have H := HA.out
         clear HA
         simp only [soffitlaw11_CalcThree.j2] at H
         by_cases c61 : x60_48 = true
         ·subst c61
          have H1 : (some (x5_1 == 1)) = some r := by rw [if_pos rfl] at H; exact H
          clear H
          have H := H1
          clear H1
          obtain rfl := Option.some.inj H
          go_wp2
          go_ret
          exact ⟨az, bz HB.out⟩
         ·replace c61 := Bool.eq_false_iff.mpr c61
          subst c61
          have H1 : (if x5_1 ≤ 1 then (some ((x5_1 == 1) == (a0_0 == a1_0 && ((a0_1 == a1_1 && (a0_2 == a1_2)) && (a0_3.toList == a1_3.toList && (a0_4 == a1_4)))))) else (some false)) = some r := by rw [if_neg (show ¬ (false = true) by decide)] at H; exact H
          clear H
          have H := H1
          clear H1
          by_cases c62 : x5_1 ≤ 1
          ·rw [if_pos c62] at H
           have c62b0 : decide (x5_1 ≤ 1) = true := decide_eq_true c62
           clear c62
           obtain rfl := Option.some.inj H
           have hnb63 := NB978_979.out
           have hnc63 := NB979_978.out
           obtain ⟨Z64_0, Z64_1, Z64_2, Z64_3, Z64_4, F64_0, F64_1, F64_2, F64_3, F64_4⟩ := cz5 BK978.out
           obtain ⟨Z65_0, Z65_1, Z65_2, Z65_3, Z65_4, F65_0, F65_1, F65_2, F65_3, F65_4⟩ := cz5 BK979.out
           go_wp2
           go_ret
           exact ⟨az, bz HB.out⟩
          ·rw [if_neg c62] at H
           have c62b0 : decide (x5_1 ≤ 1) = false := decide_eq_false c62
           clear c62
           exact absurd HR.out (by rw [← Option.some.inj H]; simp)
end Go.Proofs.YtgkemhgihbfmmaaGreatDoor.PA
end
section
namespace Go.Proofs.YtgkemhgihbfmmaaGreatDoor.PA
open Go.RowKit Go.Proofs.YtgkemhgihbfmmaaGreatDoorW.PrintWords Go.Proofs.YtgkemhgihbfmmaaGreatDoorW.PrintLast Go.Proofs.YtgkemhgihbfmmaaGreatDoorW.PrintMore
attribute [local go_sem] max2_int min2_int max_two min_two max_three min_three max_four min_four
set_option linter.unusedVariables false
set_option linter.unusedSimpArgs false
end Go.Proofs.YtgkemhgihbfmmaaGreatDoor.PA
end
section
namespace Go.Proofs.YtgkemhgihbfmmaaGreatDoor.U
def sgn (r : Nat) : Bool := decide (r = 9 ∨ r = 10 ∨ r = 13 ∨ (32 ≤ r ∧ r ≤ 0xD7FF) ∨ (0xE000 ≤ r ∧ r ≤ 0xFFFD) ∨ (0x10000 ≤ r ∧ r ≤ 0x10FFFF))
def bt (s : ByteArray) (i : Nat) : Nat := (s.get! i).toNat
def ct (s : ByteArray) (i : Nat) : Prop := i < s.size ∧ 0x80 ≤ bt s i ∧ bt s i < 0xC0
instance (s : ByteArray) (i : Nat) : Decidable (ct s i) := by unfold ct; infer_instance
def look (s : ByteArray) (p : Nat) : Option Nat :=
  if bt s p < 0x80 then (if sgn (bt s p) = true then some 1 else none)
  else if 0xC0 ≤ bt s p ∧ bt s p < 0xE0 then (if ct s (p + 1) ∧ 0x80 ≤ (bt s p - 0xC0) * 64 + (bt s (p + 1) - 0x80) ∧ sgn ((bt s p - 0xC0) * 64 + (bt s (p + 1) - 0x80)) = true then some 2 else none)
  else if 0xE0 ≤ bt s p ∧ bt s p < 0xF0 then (if ct s (p + 1) ∧ ct s (p + 2) ∧ 0x800 ≤ ((bt s p - 0xE0) * 64 + (bt s (p + 1) - 0x80)) * 64 + (bt s (p + 2) - 0x80) ∧ sgn (((bt s p - 0xE0) * 64 + (bt s (p + 1) - 0x80)) * 64 + (bt s (p + 2) - 0x80)) = true then some 3 else none)
  else if 0xF0 ≤ bt s p ∧ bt s p < 0xF8 then (if ct s (p + 1) ∧ ct s (p + 2) ∧ ct s (p + 3) ∧ 0x10000 ≤ (((bt s p - 0xF0) * 64 + (bt s (p + 1) - 0x80)) * 64 + (bt s (p + 2) - 0x80)) * 64 + (bt s (p + 3) - 0x80) ∧ sgn ((((bt s p - 0xF0) * 64 + (bt s (p + 1) - 0x80)) * 64 + (bt s (p + 2) - 0x80)) * 64 + (bt s (p + 3) - 0x80)) = true then some 4 else none)
  else none
def bad (s : ByteArray) (p : Nat) : Bool := ((Utf8.decode s p).1 == 65533 && (Utf8.decode s p).2 == 1) || !sgn (Utf8.decode s p).1
theorem cont_iff (s : ByteArray) (i : Nat) : (i < s.size ∧ bt s i / 64 = 2) ↔ ct s i := by
  have h : bt s i < 256 := (s.get! i).toNat_lt
  show _ ↔ (i < s.size ∧ 0x80 ≤ bt s i ∧ bt s i < 0xC0)
  generalize bt s i = b at *
  constructor
  · rintro ⟨a, c⟩; exact ⟨a, by omega, by omega⟩
  · rintro ⟨a, c, d⟩; exact ⟨a, by omega⟩
theorem decode_eq (s : ByteArray) (p : Nat) : Utf8.decode s p =
    if bt s p < 0x80 then (bt s p, 1)
    else if bt s p / 32 = 6 ∧ ct s (p + 1) then (if 0x80 ≤ bt s p % 32 * 64 + bt s (p + 1) % 64 then (bt s p % 32 * 64 + bt s (p + 1) % 64, 2) else (65533, 1))
    else if bt s p / 16 = 14 ∧ ct s (p + 1) ∧ ct s (p + 2) then (if 0x800 ≤ bt s p % 16 * 4096 + bt s (p + 1) % 64 * 64 + bt s (p + 2) % 64 ∧ Utf8.valid ((bt s p % 16 * 4096 + bt s (p + 1) % 64 * 64 + bt s (p + 2) % 64 : Nat) : Int) = true then (bt s p % 16 * 4096 + bt s (p + 1) % 64 * 64 + bt s (p + 2) % 64, 3) else (65533, 1))
    else if bt s p / 8 = 30 ∧ ct s (p + 1) ∧ ct s (p + 2) ∧ ct s (p + 3) then (if 0x10000 ≤ bt s p % 8 * 262144 + bt s (p + 1) % 64 * 4096 + bt s (p + 2) % 64 * 64 + bt s (p + 3) % 64 ∧ Utf8.valid ((bt s p % 8 * 262144 + bt s (p + 1) % 64 * 4096 + bt s (p + 2) % 64 * 64 + bt s (p + 3) % 64 : Nat) : Int) = true then (bt s p % 8 * 262144 + bt s (p + 1) % 64 * 4096 + bt s (p + 2) % 64 * 64 + bt s (p + 3) % 64, 4) else (65533, 1))
    else (65533, 1) := by
  unfold Utf8.decode Utf8.runeError
  simp only [Nat.add_zero, ← bt.eq_1, Bool.and_eq_true, beq_iff_eq, decide_eq_true_eq, ge_iff_le]
  simp only [cont_iff]
  simp only [and_assoc]
theorem valid_of {r : Nat} (h : r < 0x110000) : (Utf8.valid (r : Int) = true) ↔ (r < 0xD800 ∨ 0xE000 ≤ r) := by
  unfold Utf8.valid
  simp only [Bool.or_eq_true, Bool.and_eq_true, decide_eq_true_eq]; omega
theorem look_eq (s : ByteArray) (p : Nat) : look s p = if bad s p = true then none else some (Utf8.decode s p).2 := by
  have h0 : bt s p < 256 := (s.get! p).toNat_lt
  have E : bad s p = true ↔ ((Utf8.decode s p).1 = 65533 ∧ (Utf8.decode s p).2 = 1) ∨ ¬ sgn (Utf8.decode s p).1 = true := by
    unfold bad; simp
  rw [decode_eq] at *
  simp only [E]
  clear E
  unfold look
  by_cases g0 : bt s p < 0x80
  · simp only [g0, if_true]
    have : ¬ bt s p = 65533 := by omega
    simp only [this, false_and, false_or]
    split <;> simp_all
  simp only [g0, if_false]
  by_cases g1 : 0xC0 ≤ bt s p ∧ bt s p < 0xE0
  · have d1 : bt s p / 32 = 6 := by omega
    simp only [if_pos g1, d1, true_and]
    by_cases k1 : ct s (p + 1)
    · have k := k1
      obtain ⟨_, k1, k2⟩ := k
      simp only [‹ct s (p + 1)›, true_and, if_true]
      have e : bt s p % 32 * 64 + bt s (p + 1) % 64 = (bt s p - 0xC0) * 64 + (bt s (p + 1) - 0x80) := by omega
      rw [e]
      generalize (bt s p - 0xC0) * 64 + (bt s (p + 1) - 0x80) = r
      by_cases q : 0x80 ≤ r
      · simp only [if_pos q, q, true_and, show (2 : Nat) ≠ 1 by decide, and_false, false_or]
        split <;> simp_all
      · simp [q]
    · simp only [k1, false_and, if_false]
      have : ¬ bt s p / 16 = 14 := by omega
      have h3 : ¬ bt s p / 8 = 30 := by omega
      simp [this, h3]
  have d1 : ¬ bt s p / 32 = 6 := by omega
  simp only [if_neg g1, d1, false_and, if_false]
  by_cases g2 : 0xE0 ≤ bt s p ∧ bt s p < 0xF0
  · have d2 : bt s p / 16 = 14 := by omega
    have d3 : ¬ bt s p / 8 = 30 := by omega
    simp only [if_pos g2, d2, d3, true_and, false_and, if_false]
    by_cases kk : ct s (p + 1) ∧ ct s (p + 2)
    · obtain ⟨m1, m2⟩ := kk
      simp only [m1, m2, true_and, and_self, if_true]
      obtain ⟨_, k1, k2⟩ := m1
      obtain ⟨_, k3, k4⟩ := m2
      have e : bt s p % 16 * 4096 + bt s (p + 1) % 64 * 64 + bt s (p + 2) % 64 = ((bt s p - 0xE0) * 64 + (bt s (p + 1) - 0x80)) * 64 + (bt s (p + 2) - 0x80) := by omega
      have hr : ((bt s p - 0xE0) * 64 + (bt s (p + 1) - 0x80)) * 64 + (bt s (p + 2) - 0x80) < 0x110000 := by omega
      rw [e]
      generalize ((bt s p - 0xE0) * 64 + (bt s (p + 1) - 0x80)) * 64 + (bt s (p + 2) - 0x80) = r at hr ⊢
      simp only [valid_of hr]
      by_cases q : 0x800 ≤ r
      · by_cases v : r < 0xD800 ∨ 0xE000 ≤ r
        · simp only [q, v, true_and, and_self, if_true, show (3 : Nat) ≠ 1 by decide, and_false, false_or]
          split <;> simp_all
        · have : sgn r = false := by unfold sgn; simp; omega
          simp [v, this]
      · simp [q]
    · rw [if_neg kk, if_neg (fun x => kk ⟨x.1, x.2.1⟩)]; simp
  have d2 : ¬ bt s p / 16 = 14 := by omega
  simp only [if_neg g2, d2, false_and, if_false]
  by_cases g3 : 0xF0 ≤ bt s p ∧ bt s p < 0xF8
  · have d3 : bt s p / 8 = 30 := by omega
    simp only [if_pos g3, d3, true_and]
    by_cases kk : ct s (p + 1) ∧ ct s (p + 2) ∧ ct s (p + 3)
    · obtain ⟨m1, m2, m3⟩ := kk
      simp only [m1, m2, m3, true_and, and_self, if_true]
      obtain ⟨_, k1, k2⟩ := m1
      obtain ⟨_, k3, k4⟩ := m2
      obtain ⟨_, k5, k6⟩ := m3
      have e : bt s p % 8 * 262144 + bt s (p + 1) % 64 * 4096 + bt s (p + 2) % 64 * 64 + bt s (p + 3) % 64 = (((bt s p - 0xF0) * 64 + (bt s (p + 1) - 0x80)) * 64 + (bt s (p + 2) - 0x80)) * 64 + (bt s (p + 3) - 0x80) := by omega
      have hr : (((bt s p - 0xF0) * 64 + (bt s (p + 1) - 0x80)) * 64 + (bt s (p + 2) - 0x80)) * 64 + (bt s (p + 3) - 0x80) < 0x200000 := by omega
      rw [e]
      generalize (((bt s p - 0xF0) * 64 + (bt s (p + 1) - 0x80)) * 64 + (bt s (p + 2) - 0x80)) * 64 + (bt s (p + 3) - 0x80) = r at hr ⊢
      have hv : (Utf8.valid (r : Int) = true) ↔ ((r < 0xD800 ∨ 0xE000 ≤ r) ∧ r < 0x110000) := by
        unfold Utf8.valid
        simp only [Bool.or_eq_true, Bool.and_eq_true, decide_eq_true_eq]; omega
      simp only [hv]
      by_cases q : 0x10000 ≤ r
      · by_cases v : r < 0x110000
        · have v2 : (r < 0xD800 ∨ 0xE000 ≤ r) := by omega
          simp only [q, v, v2, true_and, and_self, if_true, show (4 : Nat) ≠ 1 by decide, and_false, false_or]
          split <;> simp_all
        · have : sgn r = false := by unfold sgn; simp; omega
          simp [v, this]
      · simp [q]
    · rw [if_neg kk, if_neg (fun x => kk ⟨x.1, x.2.1, x.2.2.1⟩)]; simp
  · have d3 : ¬ bt s p / 8 = 30 := by omega
    simp only [if_neg g3, d3, false_and, if_false]; simp
end Go.Proofs.YtgkemhgihbfmmaaGreatDoor.U
end
section
namespace Go.Proofs.YtgkemhgihbfmmaaGreatDoor.M
def sh : Nat → Int → Int × Int
  | 0, n => (n, 0)
  | s + 1, n => if n % 10 = 0 then sh s (n / 10) else (n, (s : Int) + 1)
theorem sh_id (s : Nat) (n : Int) (h : s = 0 ∨ n % 10 ≠ 0) : sh s n = (n, (s : Int)) := by
  cases s with
  | zero => rfl
  | succ s =>
    have h' : ¬ n % 10 = 0 := by omega
    simp [sh, h']
theorem sh_neg (s : Nat) : ∀ n : Int, sh s (-n) = (-(sh s n).1, (sh s n).2) := by
  induction s with
  | zero => intro n; rfl
  | succ s ih =>
    intro n
    by_cases h : n % 10 = 0
    · have h2 : (-n) % 10 = 0 := by omega
      have h3 : (-n) / 10 = -(n / 10) := by omega
      simp only [sh, h, h2, if_true, h3, ih]
    · have h2 : ¬ (-n) % 10 = 0 := by omega
      simp only [sh, h, h2, if_false]
theorem sh_spec (s : Nat) : ∀ n : Int, ∃ t : Nat, t ≤ s ∧ (sh s n).2 = ((s - t : Nat) : Int) ∧ n = (sh s n).1 * 10 ^ t ∧ ((sh s n).2 = 0 ∨ (sh s n).1 % 10 ≠ 0) := by
  induction s with
  | zero => intro n; exact ⟨0, Nat.le_refl _, rfl, by simp [sh], .inl rfl⟩
  | succ s ih =>
    intro n
    by_cases h : n % 10 = 0
    · obtain ⟨t, h1, h2, h3, h4⟩ := ih (n / 10)
      refine ⟨t + 1, by omega, ?_, ?_, ?_⟩
      · simp only [sh, h, if_true]; rw [h2]; congr 1; omega
      · simp only [sh, h, if_true]
        have e : n = (n / 10) * 10 := by omega
        rw [Int.pow_succ, ← Int.mul_assoc, ← h3]; exact e
      · simp only [sh, h, if_true]; exact h4
    · refine ⟨0, Nat.zero_le _, ?_, ?_, ?_⟩
      · simp [sh, h]
      · simp [sh, h]
      · simp only [sh, h, if_false]; exact .inr h
theorem sh_nonneg (s : Nat) : ∀ n : Int, 0 ≤ n → 0 ≤ (sh s n).1 ∧ (sh s n).1 ≤ n := by
  induction s with
  | zero => intro n h; simp only [sh]; omega
  | succ s ih =>
    intro n h
    by_cases h1 : n % 10 = 0
    · have := ih (n / 10) (by omega)
      simp only [sh, h1, if_true]; omega
    · simp only [sh, h1, if_false]; omega
def decS (n : Int) (s : Nat) (m : Bool) : Int × Int × Int :=
  if 999999999999 < (sh s n).1 then (0, 0, 3) else (if m = true then -(sh s n).1 else (sh s n).1, (sh s n).2, 0)
def Snd (n s : Int) : Prop := 0 ≤ s ∧ s ≤ 6 ∧ -999999999999 ≤ n ∧ n ≤ 999999999999 ∧ (s = 0 ∨ n % 10 ≠ 0)
instance (n s : Int) : Decidable (Snd n s) := by unfold Snd; infer_instance
def mk (n s : Int) : Int × Int × Int :=
  if s < 0 ∨ 6 < s ∨ 999999999999 < n ∨ n < -999999999999 then (0, 0, 3) else ((sh s.toNat n).1, (sh s.toNat n).2, 0)
theorem mk_sound (n s : Int) (h : Snd n s) : mk n s = (n, s, 0) := by
  obtain ⟨h0, h1, h2, h3, h4⟩ := h
  unfold mk; rw [if_neg (by omega)]
  rw [sh_id s.toNat n (by omega)]; simp only [Prod.mk.injEq, and_true, true_and]; omega
theorem mk_unsound (n s : Int) (h : ¬ Snd n s) : ¬ ((mk n s).2.2 = 0 ∧ (mk n s).1 = n ∧ (mk n s).2.1 = s) := by
  unfold mk
  by_cases h1 : s < 0 ∨ 6 < s ∨ 999999999999 < n ∨ n < -999999999999
  · rw [if_pos h1]; simp
  · rw [if_neg h1]
    rintro ⟨_, h2, h3⟩
    apply h
    refine ⟨by omega, by omega, by omega, by omega, ?_⟩
    obtain ⟨t, _, _, _, h4⟩ := sh_spec s.toNat n
    simp only at h2 h3
    rw [h2, h3] at h4; exact h4
def Dig (l : List Int) : Prop := ∀ d, d ∈ l → 0 ≤ d ∧ d ≤ 9
theorem Dig.drop {l : List Int} (h : Dig l) (k : Nat) : Dig (l.drop k) := fun d hd => h d (List.mem_of_mem_drop hd)
theorem Dig.take {l : List Int} (h : Dig l) (k : Nat) : Dig (l.take k) := fun d hd => h d (List.mem_of_mem_take hd)
theorem Dig.replicate (n : Nat) : Dig (List.replicate n 0) := fun d hd => by
  have := (List.mem_replicate.1 hd).2; omega
theorem pow_pos (k : Nat) : (0 : Int) < 10 ^ k := Int.pow_pos (by decide)
end Go.Proofs.YtgkemhgihbfmmaaGreatDoor.M
end
section
namespace Go.Proofs.YtgkemhgihbfmmaaGreatDoor.PA
open Go.RowKit Go.Proofs.YtgkemhgihbfmmaaGreatDoorW.PrintWords Go.Proofs.YtgkemhgihbfmmaaGreatDoorW.PrintLast Go.Proofs.YtgkemhgihbfmmaaGreatDoorW.PrintMore
open Go.Proofs.YtgkemhgihbfmmaaGreatDoor.M
theorem w64 {x : Int} (h1 : -9223372036854775808 ≤ x) (h2 : x < 9223372036854775808) : wrap64 x = x := by unfold wrap64; omega
theorem wu64 {x : Int} (h1 : 0 ≤ x) (h2 : x < 18446744073709551616) : IntKind.u64.wrap x = x := by rw [IntKind.wrap_u64]; omega
theorem obs {α β : Type} (a : α) (f : α → Option β) : (some a).bind f = f a := by simp
theorem succ_of {k : Nat} (h : 0 < k) : ∃ m, k = m + 1 := ⟨k - 1, by omega⟩
theorem short_l0 (s : Nat) : ∀ (k : Nat) (n : Int), s < k → s ≤ 1000 → 0 ≤ n → n < 18446744073709551616 → deci_form_short.l0 k n s = some (sh s n) := by
  induction s with
  | zero =>
    intro k n hk _ _ _
    obtain ⟨k, rfl⟩ := succ_of (show 0 < k by omega)
    simp only [deci_form_short.l0]; rw [if_neg (by omega)]; rfl
  | succ s ih =>
    intro k n hk hs h0 h1
    obtain ⟨k, rfl⟩ := succ_of (show 0 < k by omega)
    simp only [deci_form_short.l0]
    rw [if_pos (by omega), Int.tmod_eq_emod_of_nonneg h0, Int.tdiv_eq_ediv_of_nonneg h0]
    by_cases h : n % 10 = 0
    · rw [if_pos h, wu64 (by omega) (by omega), w64 (by omega) (by omega), show ((s + 1 : Nat) : Int) - 1 = (s : Int) by omega, ih k (n / 10) (by omega) (by omega) (by omega) (by omega)]
      simp only [sh, h, if_true]
    · rw [if_neg h]; simp only [sh, h, if_false]; rfl
theorem dec_f {k : Nat} {n s : Int} {m : Bool} (hk : 8 ≤ k) (h0 : 0 ≤ n) (h1 : n < 18446744073709551616) (hs0 : 0 ≤ s) (hs : s ≤ 6) :
    deci_form_dec.f k n s m = some (decS n s.toNat m) := by
  obtain ⟨t, rfl⟩ := Int.eq_ofNat_of_zero_le hs0
  unfold deci_form_dec.f deci_form_short.f
  rw [short_l0 t k n (by omega) (by omega) h0 h1]
  simp only [Option.bind_some, Int.toNat_natCast]
  have hb := sh_nonneg t n h0
  unfold decS
  by_cases h : 999999999999 < (sh t n).1
  · rw [if_pos h, if_pos h]
  · rw [if_neg h, if_neg h, w64 (x := (sh t n).1) (by omega) (by omega), w64 (by omega) (by omega)]
    cases m <;> rfl
theorem mx_abs {n : Int} (h1 : -9223372036854775807 ≤ n) (h2 : n < 9223372036854775808) : IntKind.u64.wrap (mx n (wrap64 (-n))) = n.natAbs := by
  rw [w64 (by omega) (by omega)]; unfold mx
  split <;> (rw [wu64 (by omega) (by omega)]; omega)
theorem decS_mk (n s : Int) (h : ¬ (s < 0 ∨ 6 < s ∨ 999999999999 < n ∨ n < -999999999999)) : decS (n.natAbs : Int) s.toNat (decide (n < 0)) = mk n s := by
  unfold decS mk
  rw [if_neg h]
  have hb := sh_nonneg s.toNat (n.natAbs : Int) (by omega)
  rw [if_neg (by omega)]
  by_cases g : n < 0
  · have e : n = -((n.natAbs : Nat) : Int) := by omega
    simp only [g, decide_true, if_true]
    rw [e, sh_neg]; simp
  · have e : ((n.natAbs : Nat) : Int) = n := by omega
    simp only [g, decide_false, Bool.false_eq_true, if_false]
    rw [e]
theorem make_f {k : Nat} (hk : 10 ≤ k) (n s : Int) : deci_Make.f k n s = some (mk n s) := by
  have hj : ∀ b : Bool, b = decide (s < 0 ∨ 6 < s ∨ 999999999999 < n ∨ n < -999999999999) → deci_Make.j0 k n s b = some (mk n s) := by
    intro b hb
    obtain ⟨k, rfl⟩ := succ_of (show 0 < k by omega)
    simp only [deci_Make.j0]
    by_cases h : s < 0 ∨ 6 < s ∨ 999999999999 < n ∨ n < -999999999999
    · rw [if_pos (by rw [hb]; exact decide_eq_true h)]; unfold mk; rw [if_pos h]
    · rw [if_neg (by rw [hb, decide_eq_false h]; simp), mx_abs (by omega) (by omega), dec_f (by omega) (by omega) (by omega) (by omega) (by omega)]
      simp only [Option.bind_some]
      rw [decS_mk n s h]
  unfold deci_Make.f
  by_cases h1 : s < 0
  · rw [if_pos h1]; exact hj _ (decide_eq_true (by omega)).symm
  rw [if_neg h1]
  by_cases h2 : s > 6
  · rw [if_pos h2]; exact hj _ (decide_eq_true (by omega)).symm
  rw [if_neg h2]
  by_cases h3 : n > 999999999999
  · rw [if_pos h3]; exact hj _ (decide_eq_true (by omega)).symm
  rw [if_neg h3]
  exact hj _ (by rw [decide_eq_decide]; omega)
theorem refmake_l0 (s : Nat) : ∀ (k : Nat) (n : Int), s < k → s ≤ 1000 → -9223372036854775808 ≤ n → n < 9223372036854775808 → soffitref01_Make.l0 k n s = some ((sh s n).1, (sh s n).2, 0) := by
  induction s with
  | zero =>
    intro k n hk _ _ _
    obtain ⟨k, rfl⟩ := succ_of (show 0 < k by omega)
    simp only [soffitref01_Make.l0]; rw [if_neg (by omega)]; rfl
  | succ s ih =>
    intro k n hk hs h0 h1
    obtain ⟨k, rfl⟩ := succ_of (show 0 < k by omega)
    simp only [soffitref01_Make.l0]
    rw [if_pos (by omega)]
    have e : Int.tmod n 10 = 0 ↔ n % 10 = 0 := by
      constructor
      · intro h; have := Int.dvd_of_tmod_eq_zero h; omega
      · intro h; exact Int.tmod_eq_zero_of_dvd (by omega)
    by_cases h : n % 10 = 0
    · have hd : Int.tdiv n 10 = n / 10 := Int.tdiv_eq_ediv_of_dvd (by omega)
      rw [if_pos (e.2 h), hd, w64 (by omega) (by omega), w64 (by omega) (by omega), show ((s + 1 : Nat) : Int) - 1 = (s : Int) by omega, ih k (n / 10) (by omega) (by omega) (by omega) (by omega)]
      simp only [sh, h, if_true]
    · rw [if_neg (fun g => h (e.1 g))]; simp only [sh, h, if_false]; rfl
theorem refmake_f {k : Nat} (hk : 10 ≤ k) (n s : Int) : soffitref01_Make.f k n s = some (mk n s) := by
  have hj : ∀ b : Bool, b = decide (s < 0 ∨ 6 < s ∨ 999999999999 < n ∨ n < -999999999999) → soffitref01_Make.j0 k n s b = some (mk n s) := by
    intro b hb
    obtain ⟨k, rfl⟩ := succ_of (show 0 < k by omega)
    simp only [soffitref01_Make.j0]
    by_cases h : s < 0 ∨ 6 < s ∨ 999999999999 < n ∨ n < -999999999999
    · rw [if_pos (by rw [hb]; exact decide_eq_true h)]; unfold mk; rw [if_pos h]
    · rw [if_neg (by rw [hb, decide_eq_false h]; simp)]
      obtain ⟨t, rfl⟩ := Int.eq_ofNat_of_zero_le (show 0 ≤ s by omega)
      rw [refmake_l0 t k n (by omega) (by omega) (by omega) (by omega)]
      unfold mk; rw [if_neg h, Int.toNat_natCast]
  unfold soffitref01_Make.f
  by_cases h1 : s < 0
  · rw [if_pos h1]; exact hj _ (decide_eq_true (by omega)).symm
  rw [if_neg h1]
  by_cases h2 : s > 6
  · rw [if_pos h2]; exact hj _ (decide_eq_true (by omega)).symm
  rw [if_neg h2]
  by_cases h3 : n > 999999999999
  · rw [if_pos h3]; exact hj _ (decide_eq_true (by omega)).symm
  rw [if_neg h3]
  exact hj _ (by rw [decide_eq_decide]; omega)
theorem sound_f {k : Nat} (hk : 10 ≤ k) (n s : Int) : deci_Sound.f k n s = some (decide (Snd n s)) := by
  unfold deci_Sound.f
  rw [make_f hk]; simp only [Option.bind_some]
  by_cases h : Snd n s
  · rw [mk_sound n s h]; simp [h]
  · have hu := mk_unsound n s h
    by_cases e : (mk n s).2.2 = 0
    · rw [if_pos e]; simp only [h, decide_false, Option.some.injEq, Bool.and_eq_false_iff, beq_eq_false_iff_ne]
      by_cases e1 : (mk n s).1 = n
      · right; intro e2; exact hu ⟨e, e1, e2⟩
      · left; exact e1
    · rw [if_neg e]; simp [h]
theorem refsound_f {k : Nat} (hk : 10 ≤ k) (n s : Int) : soffitref01_Sound.f k n s = some (decide (Snd n s)) := by
  unfold soffitref01_Sound.f
  rw [refmake_f hk]; simp only [Option.bind_some]
  by_cases h : Snd n s
  · rw [mk_sound n s h]; simp [h]
  · have hu := mk_unsound n s h
    by_cases e : (mk n s).2.2 = 0
    · rw [if_pos e]
      by_cases e1 : (mk n s).1 = n
      · rw [if_pos e1]; simp only [h, decide_false, Option.some.injEq, beq_eq_false_iff_ne]
        intro e2; exact hu ⟨e, e1, e2⟩
      · rw [if_neg e1]; simp [h]
    · rw [if_neg e]; simp [h]
end Go.Proofs.YtgkemhgihbfmmaaGreatDoor.PA
end
