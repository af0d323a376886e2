/- Part 22 of the proof for CalcSides: functions of the program as plain Lean functions, their calls, and what they come to. -/
import Derived.Deep.LoopGhost
import Derived.Lib.OwnBridge
import Derived.RowKit
import Derived.Test.YtgkemhgihbfmmaaGreatDoorCalcSidesK18
import Derived.Test.YtgkemhgihbfmmaaGreatDoorCalcSidesK17
import Derived.Test.YtgkemhgihbfmmaaGreatDoorCalcSidesK20
import Derived.Test.YtgkemhgihbfmmaaGreatDoorCalcSidesK19
set_option linter.unusedVariables false
set_option linter.unusedSimpArgs false
section
namespace Go.Proofs.YtgkemhgihbfmmaaGreatDoor.PA
open Go.RowKit Go.Proofs.YtgkemhgihbfmmaaGreatDoorW.PrintWords Go.Proofs.YtgkemhgihbfmmaaGreatDoorW.PrintLast Go.Proofs.YtgkemhgihbfmmaaGreatDoorW.PrintMore
abbrev cells27 (x : S27) : Array Value := #[.string x.f0, .int .i64 x.f1.f0, .int .i64 x.f1.f1.f0, .int .i64 x.f1.f1.f1, .string x.f1.f2, .int .i64 x.f1.f3]
def fnd (p : S27 → Option Bool) : List S27 → Nat → Option Int
  | [], _ => some (-1)
  | y :: t, i => (p y).bind fun b => if b = true then some (i : Int) else fnd p t (i + 1)
def Gives27 (g : Nat) (lb : Array Value) (p : S27 → Option Bool) (w : World) : Prop := ∀ (W : World) (x : S27) (b : Bool), Below w.heap.size w W → p x = some b → Calls Tryz.prog g (#[.agg (cells27 x)] ++ lb) W fun e w' => e = .returned (.bool b) ∧ Below w.heap.size w w'
theorem drop_at27 {l : List S27} {i : Nat} (h : i < l.length) : l.drop i = rd_T27 l (i : Int) :: l.drop (i + 1) := by
  rw [List.drop_eq_getElem_cons h]
  congr 1
  show _ = l.getD (Int.toNat (i : Int)) z27
  rw [Int.toNat_natCast, List.getD_eq_getElem?_getD, List.getElem?_eq_getElem h, Option.getD_some]
set_option maxHeartbeats 4000000 in
set_option maxRecDepth 100000 in
theorem idx27s (g : Nat) (lb : Array Value) (p : S27 → Option Bool) (eg : ∀ args w, (callFunc g args).run Tryz.prog w = .ok (.enter g args) w) (l : List S27) (A0 : Option Addr) (c0 : Nat) (r : Int) (w : World) (hC : Kd.C k27 w A0 l.length l) (hp : Gives27 g lb p w) (hbig : l.length < 4611686018427387904) (h : fnd p l 0 = some r) :
    Calls Tryz.prog 76 #[.slice A0 l.length c0, .func (.func g) #[] lb] w fun e w' => e = .returned (.int .i64 r) ∧ Below w.heap.size w w' := by
  have hu27 := Tryz.underlying27
  have H0 : Aside0 (fnd p (l.drop 0) 0 = some r) := ⟨h⟩
  have HC := Aside0.mk hC
  clear h hC
  go_enter Tryz.func76, Tryz.ntmps76
  go_wp2
  go_loopg [5, 8] l.length (fun gg _ s8 wr => ∃ (kk : Nat), kk + gg = l.length ∧ s8 = .int .i64 kk ∧ Aside0 (fnd p (l.drop kk) kk = some r) ∧ Aside0 (Below w.heap.size w wr))
  case atStart => exact ⟨0, Nat.zero_add _, rfl, H0, ⟨Below.refl _ _⟩⟩
  case round =>
    obtain ⟨kk, hkg, rfl, HA, HB1⟩ := hrel
    cases gk with
    | zero =>
      have d1 : decide ((kk : Int) < (l.length : Int)) = false := decide_eq_false (by omega)
      have hA := HA.out
      rw [List.drop_eq_nil_of_le (by omega)] at hA
      simp only [fnd, Option.some.injEq] at hA
      subst hA
      go_wp2
      go_ret
      exact ⟨rfl, HB1.out⟩
    | succ n =>
      have d1 : decide ((kk : Int) < (l.length : Int)) = true := decide_eq_true (by omega)
      have p1 : (0 : Int) ≤ (kk : Int) := by omega
      have q1 : (kk : Int) < (l.length : Int) := by omega
      obtain ⟨ad, e1, h0, h1, h2, h3, h4, h5⟩ := at_T27 HC.out (kk : Int) p1 q1
      cases e1
      have hA := HA.out
      rw [drop_at27 (by omega)] at hA
      generalize hy : rd_T27 l (kk : Int) = y at hA h0 h1 h2 h3 h4 h5
      clear hy
      have h0 : wr.cell? (ad.add (kk * 6)) = some (.string y.f0) := pw_cell_below HB1.out h0
      have h1 : wr.cell? ⟨(ad.add (kk * 6)).block, (ad.add (kk * 6)).off + 1, none⟩ = some (.int .i64 y.f1.f0) := pw_cell_below HB1.out h1
      have h2 : wr.cell? ⟨(ad.add (kk * 6)).block, (ad.add (kk * 6)).off + 2, none⟩ = some (.int .i64 y.f1.f1.f0) := pw_cell_below HB1.out h2
      have h3 : wr.cell? ⟨(ad.add (kk * 6)).block, (ad.add (kk * 6)).off + 3, none⟩ = some (.int .i64 y.f1.f1.f1) := pw_cell_below HB1.out h3
      have h4 : wr.cell? ⟨(ad.add (kk * 6)).block, (ad.add (kk * 6)).off + 4, none⟩ = some (.string y.f1.f2) := pw_cell_below HB1.out h4
      have h5 : wr.cell? ⟨(ad.add (kk * 6)).block, (ad.add (kk * 6)).off + 5, none⟩ = some (.int .i64 y.f1.f3) := pw_cell_below HB1.out h5
      have i1 := eq_true p1
      have i2 := eq_true q1
      have i3 : (kk < l.length) = True := eq_true (by omega)
      simp only [fnd] at hA
      replace hA := Option.bind_eq_some_iff.mp hA
      obtain ⟨b1, hIs, hA⟩ := hA
      have cI := hp wr y b1 HB1.out hIs
      have HA2 := Aside0.mk hA
      clear hA hIs hp
      cases b1 with
      | false =>
        have hr := HA2.out
        simp only [Bool.false_eq_true, if_false] at hr
        have HA3 := Aside0.mk hr
        clear hr
        go_wp2_with (go_at_fn g; refine cI.mono ?_; rintro e w' ⟨rfl, hb⟩)
        go_roundg n
        case measure => omega
        case rel => exact ⟨kk + 1, by omega, by go_num, HA3, ⟨hb⟩⟩
      | true =>
        have hr := HA2.out
        simp only [if_true, Option.some.injEq] at hr
        subst hr
        go_wp2_with (go_at_fn g; refine cI.mono ?_; rintro e w' ⟨rfl, hb⟩)
        go_ret
        exact ⟨rfl, hb⟩
set_option maxHeartbeats 4000000 in
set_option maxRecDepth 100000 in
theorem idx27b (g : Nat) (lb : Array Value) (p : S27 → Option Bool) (eg : ∀ args w, (callFunc g args).run Tryz.prog w = .ok (.enter g args) w) (l : List S27) (A0 : Option Addr) (c0 : Nat) (r : Int) (w : World) (hC : Kd.C k27 w A0 l.length l) (hp : Gives27 g lb p w) (hbig : l.length < 4611686018427387904) (h : fnd p l 0 = some r) :
    Calls Tryz.prog 69 #[.slice A0 l.length c0, .func (.func g) #[] lb] w fun e w' => e = .returned (.int .i64 r) ∧ Below w.heap.size w w' := by
  have hu27 := Tryz.underlying27
  have H0 : Aside0 (fnd p (l.drop 0) 0 = some r) := ⟨h⟩
  have HC := Aside0.mk hC
  clear h hC
  go_enter Tryz.func69, Tryz.ntmps69
  go_wp2
  go_loopg [5, 8] l.length (fun gg _ s8 wr => ∃ (kk : Nat), kk + gg = l.length ∧ s8 = .int .i64 kk ∧ Aside0 (fnd p (l.drop kk) kk = some r) ∧ Aside0 (Below w.heap.size w wr))
  case atStart => exact ⟨0, Nat.zero_add _, rfl, H0, ⟨Below.refl _ _⟩⟩
  case round =>
    obtain ⟨kk, hkg, rfl, HA, HB1⟩ := hrel
    cases gk with
    | zero =>
      have d1 : decide ((kk : Int) < (l.length : Int)) = false := decide_eq_false (by omega)
      have hA := HA.out
      rw [List.drop_eq_nil_of_le (by omega)] at hA
      simp only [fnd, Option.some.injEq] at hA
      subst hA
      go_wp2
      go_ret
      exact ⟨rfl, HB1.out⟩
    | succ n =>
      have d1 : decide ((kk : Int) < (l.length : Int)) = true := decide_eq_true (by omega)
      have p1 : (0 : Int) ≤ (kk : Int) := by omega
      have q1 : (kk : Int) < (l.length : Int) := by omega
      obtain ⟨ad, e1, h0, h1, h2, h3, h4, h5⟩ := at_T27 HC.out (kk : Int) p1 q1
      cases e1
      have hA := HA.out
      rw [drop_at27 (by omega)] at hA
      generalize hy : rd_T27 l (kk : Int) = y at hA h0 h1 h2 h3 h4 h5
      clear hy
      have h0 : wr.cell? (ad.add (kk * 6)) = some (.string y.f0) := pw_cell_below HB1.out h0
      have h1 : wr.cell? ⟨(ad.add (kk * 6)).block, (ad.add (kk * 6)).off + 1, none⟩ = some (.int .i64 y.f1.f0) := pw_cell_below HB1.out h1
      have h2 : wr.cell? ⟨(ad.add (kk * 6)).block, (ad.add (kk * 6)).off + 2, none⟩ = some (.int .i64 y.f1.f1.f0) := pw_cell_below HB1.out h2
      have h3 : wr.cell? ⟨(ad.add (kk * 6)).block, (ad.add (kk * 6)).off + 3, none⟩ = some (.int .i64 y.f1.f1.f1) := pw_cell_below HB1.out h3
      have h4 : wr.cell? ⟨(ad.add (kk * 6)).block, (ad.add (kk * 6)).off + 4, none⟩ = some (.string y.f1.f2) := pw_cell_below HB1.out h4
      have h5 : wr.cell? ⟨(ad.add (kk * 6)).block, (ad.add (kk * 6)).off + 5, none⟩ = some (.int .i64 y.f1.f3) := pw_cell_below HB1.out h5
      have i1 := eq_true p1
      have i2 := eq_true q1
      have i3 : (kk < l.length) = True := eq_true (by omega)
      simp only [fnd] at hA
      replace hA := Option.bind_eq_some_iff.mp hA
      obtain ⟨b1, hIs, hA⟩ := hA
      have cI := hp wr y b1 HB1.out hIs
      have HA2 := Aside0.mk hA
      clear hA hIs hp
      cases b1 with
      | false =>
        have hr := HA2.out
        simp only [Bool.false_eq_true, if_false] at hr
        have HA3 := Aside0.mk hr
        clear hr
        go_wp2_with (go_at_fn g; refine cI.mono ?_; rintro e w' ⟨rfl, hb⟩)
        go_roundg n
        case measure => omega
        case rel => exact ⟨kk + 1, by omega, by go_num, HA3, ⟨hb⟩⟩
      | true =>
        have hr := HA2.out
        simp only [if_true, Option.some.injEq] at hr
        subst hr
        go_wp2_with (go_at_fn g; refine cI.mono ?_; rintro e w' ⟨rfl, hb⟩)
        go_ret
        exact ⟨rfl, hb⟩
def standin_IndexName.f (l0 : List S27) (_a0 _a1 _a2 _a3 : Int) (_a4 : ByteArray) (_a5 : Int) (a6 : ByteArray) (_l7 : List S31) : Option Int := if l0.length < 4611686018427387904 then fnd (fun y => some (y.f0.toList == a6.toList)) l0 0 else none
set_option maxHeartbeats 4000000 in
set_option maxRecDepth 100000 in
theorem gives77 (gx : Nat) (a1_0 a1_1 a1_2 a1_3 : Int) (a1_4 : ByteArray) (a1_5 : Int) (a1_6 : ByteArray) (v : Value) (w : World) (hX : w.heap[gx]? = some (.cells #[.int .i64 a1_0, .int .i64 a1_1, .int .i64 a1_2, .int .i64 a1_3, .string a1_4, .int .i64 a1_5, .string a1_6, v] 31 (0, 0))) :
    Gives27 77 #[.pointer (some ⟨gx, 0, none⟩)] (fun y => some (y.f0.toList == a1_6.toList)) w := fun W x b hb hp => by
  show Calls Tryz.prog 77 #[.agg (cells27 x), .pointer (some ⟨gx, 0, none⟩)] W _
  have hXW := (hb.block gx (blk_lt hX)).trans hX
  obtain rfl := Option.some.inj hp
  have HB := Aside0.mk hb
  have HX := Aside0.mk hXW
  have hu27 := Tryz.underlying27
  have hu31 := Tryz.underlying31
  clear hb hXW hX hp
  go_enter Tryz.func77, Tryz.ntmps77
  go_wp2_with ((with_reducible refine gate_dst (N := 2) rfl ?_); refine bev (cells27 x) 27 ?_; intro gb hgb w1 hbox hb1
               have HB1 := Aside0.mk (HB.out.trans (hb1.mono HB.out.size)); have x6 : w1.cell? ⟨gx, 6, none⟩ = some (.string a1_6) := (blk_cell (blk_below HX.out hb1) 6).trans rfl; have y0 : w1.cell? ⟨gb, 0, none⟩ = some (.string x.f0) := (blk_cell hbox 0).trans rfl
               clear hgb hbox hb1)
  go_ret
  exact ⟨rfl, HB1.out⟩
theorem standin_IndexName.calls (A0 : Option Addr) (c0 : Nat) (l0 : List S27) (a1_0 a1_1 a1_2 a1_3 : Int) (a1_4 : ByteArray) (a1_5 : Int) (a1_6 : ByteArray) (A1_7 : Option Addr) (c1_7 : Nat) (l1_7 : List S31) (r : Int) (w : World) (hr0 : Kd.C k27 w A0 l0.length l0) (hc0 : l0.length ≤ c0) (hr1_7 : Kd.C k31 w A1_7 l1_7.length l1_7) (hc1_7 : l1_7.length ≤ c1_7)
    (gx : Nat) (hX : w.heap[gx]? = some (.cells #[.int .i64 a1_0, .int .i64 a1_1, .int .i64 a1_2, .int .i64 a1_3, .string a1_4, .int .i64 a1_5, .string a1_6, .slice A1_7 l1_7.length c1_7] 31 (0, 0))) (h : standin_IndexName.f l0 a1_0 a1_1 a1_2 a1_3 a1_4 a1_5 a1_6 l1_7 = some r) :
    Calls Tryz.prog 76 #[.slice A0 l0.length c0, .func (.func 77) #[] #[.pointer (some ⟨gx, 0, none⟩)]] w fun e w' => e = .returned (.int .i64 r) ∧ Below w.heap.size w w' := by
  unfold standin_IndexName.f at h
  split at h
  · rename_i hbig
    exact idx27s 77 _ _ (enters_of Tryz.func77 (by kernel_rfl) rfl) l0 A0 c0 r w hr0 (gives77 gx a1_0 a1_1 a1_2 a1_3 a1_4 a1_5 a1_6 _ w hX) hbig h
  · cases h
set_option maxHeartbeats 4000000 in
set_option maxRecDepth 100000 in
theorem has27 (g : Nat) (lb : Array Value) (p : S27 → Option Bool) (eg : ∀ args w, (callFunc g args).run Tryz.prog w = .ok (.enter g args) w) (l : List S27) (A0 : Option Addr) (c0 : Nat) (r : Int) (w : World) (hC : Kd.C k27 w A0 l.length l) (hp : Gives27 g lb p w) (hbig : l.length < 4611686018427387904) (h : fnd p l 0 = some r) :
    Calls Tryz.prog 36 #[.slice A0 l.length c0, .func (.func g) #[] lb] w fun e w' => e = .returned (.bool (decide (0 ≤ r))) ∧ Below w.heap.size w w' := by
  have cI := idx27b g lb p eg l A0 c0 r w hC hp hbig h
  clear hC hp hbig h eg
  go_enter Tryz.func36, Tryz.ntmps36
  go_wp2_with (go_at_call 69; refine cI.mono ?_; rintro e w' ⟨rfl, hb⟩)
  go_ret
  exact ⟨rfl, hb⟩
set_option maxHeartbeats 4000000 in
set_option maxRecDepth 100000 in
theorem gives37 (k : Nat) (w : World) (hT : Tabs w) : Gives27 37 #[] (fun y => (value_Sound.f k y.f1.f0 y.f1.f1.f0 y.f1.f1.f1 y.f1.f2 y.f1.f3).bind fun ok => some (!ok)) w := fun W x b hb hp => by
  show Calls Tryz.prog 37 #[.agg (cells27 x)] W _
  obtain ⟨ok, hv, hp⟩ := Option.bind_eq_some_iff.mp hp
  obtain rfl := Option.some.inj hp
  have HB := Aside0.mk hb
  have HV := Aside0.mk hv
  have HT := Aside0.mk (tabs_of hT hb)
  have hu27 := Tryz.underlying27
  have hu25 := Tryz.underlying25
  clear hb hp hT hv
  go_enter Tryz.func37, Tryz.ntmps37
  go_wp2_with (first
    | ((with_reducible refine gate_dst (N := 1) rfl ?_); refine bev (cells27 x) 27 ?_; intro gb hgb w1 hbox hb1
       have HB1 := Aside0.mk (HB.out.trans (hb1.mono HB.out.size)); have HT1 := Aside0.mk (tabs_of HT.out hb1); obtain ⟨y0, y1, y2, y3, y4, y5, _⟩ := cz6 hbox
       clear hgb hbox hb1)
    | (go_at_call 38; refine (value_Sound.calls k _ _ _ _ _ _ _ HT1.out HV.out).mono ?_; rintro e w2 ⟨rfl, hb2⟩))
  go_ret
  exact ⟨rfl, HB1.out.trans (hb2.mono HB1.out.size)⟩
set_option maxHeartbeats 4000000 in
set_option maxRecDepth 100000 in
theorem gives40 (gn : Nat) (n : ByteArray) (w : World) (hX : w.heap[gn]? = some (.cells #[.string n] 9 (0, 0))) : Gives27 40 #[.pointer (some ⟨gn, 0, none⟩)] (fun y => some (y.f0.toList == n.toList)) w := fun W x b hb hp => by
  show Calls Tryz.prog 40 #[.agg (cells27 x), .pointer (some ⟨gn, 0, none⟩)] W _
  have hXW := (hb.block gn (blk_lt hX)).trans hX
  obtain rfl := Option.some.inj hp
  have HB := Aside0.mk hb
  have HX := Aside0.mk hXW
  have hu27 := Tryz.underlying27
  clear hb hXW hX hp
  go_enter Tryz.func40, Tryz.ntmps40
  go_wp2_with ((with_reducible refine gate_dst (N := 2) rfl ?_); refine bev (cells27 x) 27 ?_; intro gb hgb w1 hbox hb1
               have HB1 := Aside0.mk (HB.out.trans (hb1.mono HB.out.size)); have x6 := czc1 (blk_below HX.out hb1); have y0 : w1.cell? ⟨gb, 0, none⟩ = some (.string x.f0) := (blk_cell hbox 0).trans rfl
               clear hgb hbox hb1)
  go_ret
  exact ⟨rfl, HB1.out⟩
end Go.Proofs.YtgkemhgihbfmmaaGreatDoor.PA
end
section
namespace Go.Proofs.YtgkemhgihbfmmaaGreatDoor.PA
open Go.RowKit Go.Proofs.YtgkemhgihbfmmaaGreatDoorW.PrintWords Go.Proofs.YtgkemhgihbfmmaaGreatDoorW.PrintLast Go.Proofs.YtgkemhgihbfmmaaGreatDoorW.PrintMore
attribute [local go_sem] max2_int min2_int max_two min_two max_three min_three max_four min_four isSome_set str_gtr
set_option linter.unusedVariables false
set_option linter.unusedSimpArgs false
end Go.Proofs.YtgkemhgihbfmmaaGreatDoor.PA
end
section
namespace Go.Proofs.YtgkemhgihbfmmaaGreatDoor.PA
open Go.RowKit Go.Proofs.YtgkemhgihbfmmaaGreatDoorW.PrintWords Go.Proofs.YtgkemhgihbfmmaaGreatDoorW.PrintLast Go.Proofs.YtgkemhgihbfmmaaGreatDoorW.PrintMore
attribute [local go_sem] max2_int min2_int max_two min_two max_three min_three max_four min_four isSome_set str_gtr
set_option linter.unusedVariables false
set_option linter.unusedSimpArgs false
def calc_scope_eval.f : Nat → List (S27) → Int → Int → Int → Int → ByteArray → Int → ByteArray → List (S31) → Option (Int × Int × Int × ByteArray × Int)
 | 0, _, _, _, _, _, _, _, _, _ => none
 | k + 1, l0, a1_0, a1_1, a1_2, a1_3, a1_4, a1_5, a1_6, l1_7 => if a1_0 = 1 then (some (a1_1, a1_2, a1_3, a1_4, a1_5)) else (if a1_0 = 2 then ((standin_IndexName.f l0 a1_0 a1_1 a1_2 a1_3 a1_4 a1_5 a1_6 l1_7).bind fun t1046 => (if 0 ≤ t1046 then (if t1046 < (l0.length : Int) then (some ((rd_T27 l0 t1046).f1.f0, (rd_T27 l0 t1046).f1.f1.f0, (rd_T27 l0 t1046).f1.f1.f1, (rd_T27 l0 t1046).f1.f2, (rd_T27 l0 t1046).f1.f3)) else (none)) else (none))) else (if a1_0 = 17 then (if 0 < (l1_7.length : Int) then ((calc_scope_eval.f k l0 ((rd_T31 l1_7 0).f0) ((rd_T31 l1_7 0).f1.f0) ((rd_T31 l1_7 0).f1.f1.f0) ((rd_T31 l1_7 0).f1.f1.f1) ((rd_T31 l1_7 0).f1.f2) ((rd_T31 l1_7 0).f1.f3) ((rd_T31 l1_7 0).f2) ((rd_T31 l1_7 0).f3)).bind fun bt1049 => ((logic_Is.f bt1049.1 bt1049.2.1 bt1049.2.2.1 bt1049.2.2.2.1 bt1049.2.2.2.2).bind fun t1054 => (if t1054 = true then (if 1 < (l1_7.length : Int) then ((calc_scope_eval.f k l0 ((rd_T31 l1_7 1).f0) ((rd_T31 l1_7 1).f1.f0) ((rd_T31 l1_7 1).f1.f1.f0) ((rd_T31 l1_7 1).f1.f1.f1) ((rd_T31 l1_7 1).f1.f2) ((rd_T31 l1_7 1).f1.f3) ((rd_T31 l1_7 1).f2) ((rd_T31 l1_7 1).f3)).bind fun bt1056 => (some (bt1056.1, bt1056.2.1, bt1056.2.2.1, bt1056.2.2.2.1, bt1056.2.2.2.2))) else (none)) else (if 2 < (l1_7.length : Int) then ((calc_scope_eval.f k l0 ((rd_T31 l1_7 2).f0) ((rd_T31 l1_7 2).f1.f0) ((rd_T31 l1_7 2).f1.f1.f0) ((rd_T31 l1_7 2).f1.f1.f1) ((rd_T31 l1_7 2).f1.f2) ((rd_T31 l1_7 2).f1.f3) ((rd_T31 l1_7 2).f2) ((rd_T31 l1_7 2).f3)).bind fun bt1062 => (some (bt1062.1, bt1062.2.1, bt1062.2.2.1, bt1062.2.2.2.1, bt1062.2.2.2.2))) else (none))))) else (none)) else (if 0 < (l1_7.length : Int) then ((calc_scope_eval.f k l0 ((rd_T31 l1_7 0).f0) ((rd_T31 l1_7 0).f1.f0) ((rd_T31 l1_7 0).f1.f1.f0) ((rd_T31 l1_7 0).f1.f1.f1) ((rd_T31 l1_7 0).f1.f2) ((rd_T31 l1_7 0).f1.f3) ((rd_T31 l1_7 0).f2) ((rd_T31 l1_7 0).f3)).bind fun bt1068 => (if a1_0 = 3 then (none) else (if a1_0 = 16 then ((logic_Not.f bt1068.1 bt1068.2.1 bt1068.2.2.1 bt1068.2.2.2.1 bt1068.2.2.2.2).bind fun bt1074 => (some (bt1074.1, bt1074.2.1, bt1074.2.2.1, bt1074.2.2.2.1, bt1074.2.2.2.2))) else (if 1 < (l1_7.length : Int) then ((calc_scope_eval.f k l0 ((rd_T31 l1_7 1).f0) ((rd_T31 l1_7 1).f1.f0) ((rd_T31 l1_7 1).f1.f1.f0) ((rd_T31 l1_7 1).f1.f1.f1) ((rd_T31 l1_7 1).f1.f2) ((rd_T31 l1_7 1).f1.f3) ((rd_T31 l1_7 1).f2) ((rd_T31 l1_7 1).f3)).bind fun bt1080 => (if a1_0 = 8 then ((calc_Equal.f k bt1068.1 bt1068.2.1 bt1068.2.2.1 bt1068.2.2.2.1 bt1068.2.2.2.2 bt1080.1 bt1080.2.1 bt1080.2.2.1 bt1080.2.2.2.1 bt1080.2.2.2.2).bind fun bt1086 => (some (bt1086.1, bt1086.2.1, bt1086.2.2.1, bt1086.2.2.2.1, bt1086.2.2.2.2))) else (if a1_0 = 9 then ((calc_Equal.f k bt1068.1 bt1068.2.1 bt1068.2.2.1 bt1068.2.2.2.1 bt1068.2.2.2.2 bt1080.1 bt1080.2.1 bt1080.2.2.1 bt1080.2.2.2.1 bt1080.2.2.2.2).bind fun bt1091 => ((logic_Not.f bt1091.1 bt1091.2.1 bt1091.2.2.1 bt1091.2.2.2.1 bt1091.2.2.2.2).bind fun bt1096 => (some (bt1096.1, bt1096.2.1, bt1096.2.2.1, bt1096.2.2.2.1, bt1096.2.2.2.2)))) else (if a1_0 = 10 then ((calc_Less.f k bt1068.1 bt1068.2.1 bt1068.2.2.1 bt1068.2.2.2.1 bt1068.2.2.2.2 bt1080.1 bt1080.2.1 bt1080.2.2.1 bt1080.2.2.2.1 bt1080.2.2.2.2).bind fun bt1101 => (some (bt1101.1, bt1101.2.1, bt1101.2.2.1, bt1101.2.2.2.1, bt1101.2.2.2.2))) else (if a1_0 = 12 then ((calc_Less.f k bt1080.1 bt1080.2.1 bt1080.2.2.1 bt1080.2.2.2.1 bt1080.2.2.2.2 bt1068.1 bt1068.2.1 bt1068.2.2.1 bt1068.2.2.2.1 bt1068.2.2.2.2).bind fun bt1106 => (some (bt1106.1, bt1106.2.1, bt1106.2.2.1, bt1106.2.2.2.1, bt1106.2.2.2.2))) else (if a1_0 = 11 then ((calc_Less.f k bt1080.1 bt1080.2.1 bt1080.2.2.1 bt1080.2.2.2.1 bt1080.2.2.2.2 bt1068.1 bt1068.2.1 bt1068.2.2.1 bt1068.2.2.2.1 bt1068.2.2.2.2).bind fun bt1111 => ((logic_Not.f bt1111.1 bt1111.2.1 bt1111.2.2.1 bt1111.2.2.2.1 bt1111.2.2.2.2).bind fun bt1116 => (some (bt1116.1, bt1116.2.1, bt1116.2.2.1, bt1116.2.2.2.1, bt1116.2.2.2.2)))) else (if a1_0 = 13 then ((calc_Less.f k bt1068.1 bt1068.2.1 bt1068.2.2.1 bt1068.2.2.2.1 bt1068.2.2.2.2 bt1080.1 bt1080.2.1 bt1080.2.2.1 bt1080.2.2.2.1 bt1080.2.2.2.2).bind fun bt1121 => ((logic_Not.f bt1121.1 bt1121.2.1 bt1121.2.2.1 bt1121.2.2.2.1 bt1121.2.2.2.2).bind fun bt1126 => (some (bt1126.1, bt1126.2.1, bt1126.2.2.1, bt1126.2.2.2.1, bt1126.2.2.2.2)))) else (if a1_0 = 14 then (none) else (if a1_0 = 15 then (none) else ((calc_reckon.f k a1_0 bt1068.1 bt1068.2.1 bt1068.2.2.1 bt1068.2.2.2.1 bt1068.2.2.2.2 bt1080.1 bt1080.2.1 bt1080.2.2.1 bt1080.2.2.2.1 bt1080.2.2.2.2).bind fun bt1137 => (some (bt1137.1, bt1137.2.1, bt1137.2.2.1, bt1137.2.2.2.1, bt1137.2.2.2.2)))))))))))) else (none))))) else (none))))
theorem calc_scope_eval.mono_l : ∀ k, (∀ y0 y1 y2 y3 y4 y5 y6 y7 y8, LeO (calc_scope_eval.f k y0 y1 y2 y3 y4 y5 y6 y7 y8) (calc_scope_eval.f (k + 1) y0 y1 y2 y3 y4 y5 y6 y7 y8))
 | 0 => fun _ _ _ _ _ _ _ _ _ r h => by simp [calc_scope_eval.f] at h
 | k + 1 => by
  have ih0 := calc_scope_eval.mono_l k
  ·intro y0 y1 y2 y3 y4 y5 y6 y7 y8
   unfold calc_scope_eval.f
   have q0 := @calc_Equal.mono; have q1 := @calc_Less.mono; have q2 := @calc_reckon.mono; exact lmo
theorem calc_scope_eval.mono : ∀ a0 a1 a2 a3 a4 a5 a6 a7 a8 k, LeO (calc_scope_eval.f k a0 a1 a2 a3 a4 a5 a6 a7 a8) (calc_scope_eval.f (k + 1) a0 a1 a2 a3 a4 a5 a6 a7 a8) := by
 intro a0 a1 a2 a3 a4 a5 a6 a7 a8 k
 have ih0 := calc_scope_eval.mono_l k
 exact ih0 a0 a1 a2 a3 a4 a5 a6 a7 a8
set_option maxHeartbeats 8000000 in
set_option maxRecDepth 100000 in
theorem calc_scope_eval.calls (k : Nat) : ∀ (A0 : Option Addr) (c0 : Nat) (l0 : List (S27)) (a1_0 a1_1 a1_2 a1_3 : Int) (a1_4 : ByteArray) (a1_5 : Int) (a1_6 : ByteArray) (A1_7 : Option Addr) (c1_7 : Nat) (l1_7 : List (S31)) (r1 r2 r3 : Int) (r4 : ByteArray) (r5 : Int) (w : World) (hr0 : Kd.C k27 w A0 l0.length l0) (hc0 : l0.length ≤ c0) (hr1_7 : Kd.C k31 w A1_7 l1_7.length l1_7) (hc1_7 : l1_7.length ≤ c1_7) (hT : Tabs w) (h : calc_scope_eval.f k l0 a1_0 a1_1 a1_2 a1_3 a1_4 a1_5 a1_6 l1_7 = some (r1, r2, r3, r4, r5)),
  Calls Tryz.prog 41 #[.slice A0 l0.length c0, .agg #[.int .i64 a1_0, .int .i64 a1_1, .int .i64 a1_2, .int .i64 a1_3, .string a1_4, .int .i64 a1_5, .string a1_6, .slice A1_7 l1_7.length c1_7]] w fun e w' => e = .returned (.agg #[.int .i64 r1, .int .i64 r2, .int .i64 r3, .string r4, .int .i64 r5]) ∧ Below w.heap.size w w' := by
 induction k using Nat.strongRecOn with
 | _ k ih =>
 intro A0 c0 l0 a1_0 a1_1 a1_2 a1_3 a1_4 a1_5 a1_6 A1_7 c1_7 l1_7 r1 r2 r3 r4 r5 w hr0 hc0 hr1_7 hc1_7 hT h
 cases k with
 | zero => exact absurd h (by simp [calc_scope_eval.f])
 | succ k =>
 simp only [calc_scope_eval.f] at h
 have hu31 := Tryz.underlying31
 have hu25 := Tryz.underlying25
 have HT := am hT
 clear hT
 have HR0 := am hr0
 have HC0 := am hc0
 clear hr0 hc0
 have HR1_7 := am hr1_7
 have HC1_7 := am hc1_7
 clear hr1_7 hc1_7
 have HB := am (Below.refl w.heap.size w)
 have H : (if a1_0 = 1 then (some (a1_1, a1_2, a1_3, a1_4, a1_5)) else (if a1_0 = 2 then ((standin_IndexName.f l0 a1_0 a1_1 a1_2 a1_3 a1_4 a1_5 a1_6 l1_7).bind fun t1046 => (if 0 ≤ t1046 then (if t1046 < (l0.length : Int) then (some ((rd_T27 l0 t1046).f1.f0, (rd_T27 l0 t1046).f1.f1.f0, (rd_T27 l0 t1046).f1.f1.f1, (rd_T27 l0 t1046).f1.f2, (rd_T27 l0 t1046).f1.f3)) else (none)) else (none))) else (if a1_0 = 17 then (if 0 < (l1_7.length : Int) then ((calc_scope_eval.f k l0 ((rd_T31 l1_7 0).f0) ((rd_T31 l1_7 0).f1.f0) ((rd_T31 l1_7 0).f1.f1.f0) ((rd_T31 l1_7 0).f1.f1.f1) ((rd_T31 l1_7 0).f1.f2) ((rd_T31 l1_7 0).f1.f3) ((rd_T31 l1_7 0).f2) ((rd_T31 l1_7 0).f3)).bind fun bt1049 => ((logic_Is.f bt1049.1 bt1049.2.1 bt1049.2.2.1 bt1049.2.2.2.1 bt1049.2.2.2.2).bind fun t1054 => (if t1054 = true then (if 1 < (l1_7.length : Int) then ((calc_scope_eval.f k l0 ((rd_T31 l1_7 1).f0) ((rd_T31 l1_7 1).f1.f0) ((rd_T31 l1_7 1).f1.f1.f0) ((rd_T31 l1_7 1).f1.f1.f1) ((rd_T31 l1_7 1).f1.f2) ((rd_T31 l1_7 1).f1.f3) ((rd_T31 l1_7 1).f2) ((rd_T31 l1_7 1).f3)).bind fun bt1056 => (some (bt1056.1, bt1056.2.1, bt1056.2.2.1, bt1056.2.2.2.1, bt1056.2.2.2.2))) else (none)) else (if 2 < (l1_7.length : Int) then ((calc_scope_eval.f k l0 ((rd_T31 l1_7 2).f0) ((rd_T31 l1_7 2).f1.f0) ((rd_T31 l1_7 2).f1.f1.f0) ((rd_T31 l1_7 2).f1.f1.f1) ((rd_T31 l1_7 2).f1.f2) ((rd_T31 l1_7 2).f1.f3) ((rd_T31 l1_7 2).f2) ((rd_T31 l1_7 2).f3)).bind fun bt1062 => (some (bt1062.1, bt1062.2.1, bt1062.2.2.1, bt1062.2.2.2.1, bt1062.2.2.2.2))) else (none))))) else (none)) else (if 0 < (l1_7.length : Int) then ((calc_scope_eval.f k l0 ((rd_T31 l1_7 0).f0) ((rd_T31 l1_7 0).f1.f0) ((rd_T31 l1_7 0).f1.f1.f0) ((rd_T31 l1_7 0).f1.f1.f1) ((rd_T31 l1_7 0).f1.f2) ((rd_T31 l1_7 0).f1.f3) ((rd_T31 l1_7 0).f2) ((rd_T31 l1_7 0).f3)).bind fun bt1068 => (if a1_0 = 3 then (none) else (if a1_0 = 16 then ((logic_Not.f bt1068.1 bt1068.2.1 bt1068.2.2.1 bt1068.2.2.2.1 bt1068.2.2.2.2).bind fun bt1074 => (some (bt1074.1, bt1074.2.1, bt1074.2.2.1, bt1074.2.2.2.1, bt1074.2.2.2.2))) else (if 1 < (l1_7.length : Int) then ((calc_scope_eval.f k l0 ((rd_T31 l1_7 1).f0) ((rd_T31 l1_7 1).f1.f0) ((rd_T31 l1_7 1).f1.f1.f0) ((rd_T31 l1_7 1).f1.f1.f1) ((rd_T31 l1_7 1).f1.f2) ((rd_T31 l1_7 1).f1.f3) ((rd_T31 l1_7 1).f2) ((rd_T31 l1_7 1).f3)).bind fun bt1080 => (if a1_0 = 8 then ((calc_Equal.f k bt1068.1 bt1068.2.1 bt1068.2.2.1 bt1068.2.2.2.1 bt1068.2.2.2.2 bt1080.1 bt1080.2.1 bt1080.2.2.1 bt1080.2.2.2.1 bt1080.2.2.2.2).bind fun bt1086 => (some (bt1086.1, bt1086.2.1, bt1086.2.2.1, bt1086.2.2.2.1, bt1086.2.2.2.2))) else (if a1_0 = 9 then ((calc_Equal.f k bt1068.1 bt1068.2.1 bt1068.2.2.1 bt1068.2.2.2.1 bt1068.2.2.2.2 bt1080.1 bt1080.2.1 bt1080.2.2.1 bt1080.2.2.2.1 bt1080.2.2.2.2).bind fun bt1091 => ((logic_Not.f bt1091.1 bt1091.2.1 bt1091.2.2.1 bt1091.2.2.2.1 bt1091.2.2.2.2).bind fun bt1096 => (some (bt1096.1, bt1096.2.1, bt1096.2.2.1, bt1096.2.2.2.1, bt1096.2.2.2.2)))) else (if a1_0 = 10 then ((calc_Less.f k bt1068.1 bt1068.2.1 bt1068.2.2.1 bt1068.2.2.2.1 bt1068.2.2.2.2 bt1080.1 bt1080.2.1 bt1080.2.2.1 bt1080.2.2.2.1 bt1080.2.2.2.2).bind fun bt1101 => (some (bt1101.1, bt1101.2.1, bt1101.2.2.1, bt1101.2.2.2.1, bt1101.2.2.2.2))) else (if a1_0 = 12 then ((calc_Less.f k bt1080.1 bt1080.2.1 bt1080.2.2.1 bt1080.2.2.2.1 bt1080.2.2.2.2 bt1068.1 bt1068.2.1 bt1068.2.2.1 bt1068.2.2.2.1 bt1068.2.2.2.2).bind fun bt1106 => (some (bt1106.1, bt1106.2.1, bt1106.2.2.1, bt1106.2.2.2.1, bt1106.2.2.2.2))) else (if a1_0 = 11 then ((calc_Less.f k bt1080.1 bt1080.2.1 bt1080.2.2.1 bt1080.2.2.2.1 bt1080.2.2.2.2 bt1068.1 bt1068.2.1 bt1068.2.2.1 bt1068.2.2.2.1 bt1068.2.2.2.2).bind fun bt1111 => ((logic_Not.f bt1111.1 bt1111.2.1 bt1111.2.2.1 bt1111.2.2.2.1 bt1111.2.2.2.2).bind fun bt1116 => (some (bt1116.1, bt1116.2.1, bt1116.2.2.1, bt1116.2.2.2.1, bt1116.2.2.2.2)))) else (if a1_0 = 13 then ((calc_Less.f k bt1068.1 bt1068.2.1 bt1068.2.2.1 bt1068.2.2.2.1 bt1068.2.2.2.2 bt1080.1 bt1080.2.1 bt1080.2.2.1 bt1080.2.2.2.1 bt1080.2.2.2.2).bind fun bt1121 => ((logic_Not.f bt1121.1 bt1121.2.1 bt1121.2.2.1 bt1121.2.2.2.1 bt1121.2.2.2.2).bind fun bt1126 => (some (bt1126.1, bt1126.2.1, bt1126.2.2.1, bt1126.2.2.2.1, bt1126.2.2.2.2)))) else (if a1_0 = 14 then (none) else (if a1_0 = 15 then (none) else ((calc_reckon.f k a1_0 bt1068.1 bt1068.2.1 bt1068.2.2.1 bt1068.2.2.2.1 bt1068.2.2.2.2 bt1080.1 bt1080.2.1 bt1080.2.2.1 bt1080.2.2.2.1 bt1080.2.2.2.2).bind fun bt1137 => (some (bt1137.1, bt1137.2.1, bt1137.2.2.1, bt1137.2.2.2.1, bt1137.2.2.2.2)))))))))))) else (none))))) else (none))))) = some (r1, r2, r3, r4, r5) := h
 clear h
 have HC3 := am H
 clear H
 go_enter Tryz.func41, Tryz.ntmps41
 go_upto_if 10 with (first | ((with_reducible refine gate_dst (N := 3) rfl ?_); refine bev (#[.int .i64 a1_0, .int .i64 a1_1, .int .i64 a1_2, .int .i64 a1_3, .string a1_4, .int .i64 a1_5, .string a1_6, .slice A1_7 l1_7.length c1_7]) 31 ?_; intro gb1044 hg w4 hbox hb; have BK1044 := am (hbox); have GW1044 := gs hg HB; have GE1044 := GW1044; replace HB := sb HB hb; clear hb hbox hg) | ((with_reducible refine gate_dst (N := 4) rfl ?_); refine bev (#[.int .i64 0, .int .i64 0, .int .i64 0, .string (⟨#[]⟩ : ByteArray), .int .i64 0]) 25 ?_; intro gb1045 hg w5 hbox hb; have BK1045 := am (hbox); have GW1045 := gs hg HB; have GE1045 := GW1045; replace HB := sb HB hb; have NB1044_1045 := na hg BK1044; have NB1045_1044 := nb hg BK1044; replace BK1044 := kb BK1044 hb; clear hb hbox hg; have hnb6 := NB1044_1045.out; have hnc6 := NB1045_1044.out; obtain ⟨Z7_0, Z7_1, Z7_2, Z7_3, Z7_4, Z7_5, Z7_6, Z7_7, F7_0, F7_1, F7_2, F7_3, F7_4, F7_5, F7_6, F7_7⟩ := cz8 BK1044.out))
 (try simp only [Act.put, List.setIfInBounds_toArray, List.set_cons_zero, List.set_cons_succ])
 have H := HC3.out
 clear HC3
 clear Z7_0 Z7_1 Z7_2 Z7_3 Z7_4 Z7_5 Z7_6 Z7_7 F7_0 F7_1 F7_2 F7_3 F7_4 F7_5 F7_6 F7_7
 by_cases c8 : a1_0 = 1
 ·replace H := ipe c8 H
  obtain ⟨H, c8b0, c8b1⟩ := H
  clear c8
  (first | rw [c8b0] | (simp only [i64_w, i32_w]; rw [c8b0]) | skip)
  simp only [Option.some.injEq, Prod.mk.injEq] at H
  obtain ⟨rfl, rfl, rfl, rfl, rfl⟩ := H
  have hnb9 := NB1044_1045.out
  have hnc9 := NB1045_1044.out
  obtain ⟨Z10_0, Z10_1, Z10_2, Z10_3, Z10_4, Z10_5, Z10_6, Z10_7, F10_0, F10_1, F10_2, F10_3, F10_4, F10_5, F10_6, F10_7⟩ := cz8 BK1044.out
  obtain ⟨Z11_0, Z11_1, Z11_2, Z11_3, Z11_4, F11_0, F11_1, F11_2, F11_3, F11_4⟩ := cz5 BK1045.out
  go_wp2
  refine bodyPost_ret (results_cell_row rfl _ _ gb1045 25 #[.int .i64 a1_1, .int .i64 a1_2, .int .i64 a1_3, .string a1_4, .int .i64 a1_5] (0, 0) _ rfl (bp BK1045.out) Tryz.underlying25 rfl (by kernel_rfl)) rfl ?_
  exact ⟨az, bz HB.out⟩
 replace H := ine c8 H
 obtain ⟨H, c8b0, c8b1⟩ := H
 (first | rw [c8b0] | (simp only [i64_w, i32_w]; rw [c8b0]) | skip)
 by_cases c12 : a1_0 = 2
 ·replace H := ipe c12 H
  obtain ⟨H, c12b0, c12b1⟩ := H
  clear c12
  replace H := obe H
  obtain ⟨t1046, A13, H⟩ := H
  by_cases c14 : 0 ≤ t1046
  ·rw [if_pos c14] at H
   have c14b0 : decide (0 ≤ t1046) = true := decide_eq_true c14
   clear c14
   by_cases c15 : t1046 < (l0.length : Int)
   ·rw [if_pos c15] at H
    have c15b0 : decide (t1046 < (l0.length : Int)) = true := decide_eq_true c15
    clear c15
    simp only [Option.some.injEq, Prod.mk.injEq] at H
    obtain ⟨rfl, rfl, rfl, rfl, rfl⟩ := H
    have hnb16 := NB1044_1045.out
    have hnc16 := NB1045_1044.out
    obtain ⟨Z17_0, Z17_1, Z17_2, Z17_3, Z17_4, Z17_5, Z17_6, Z17_7, F17_0, F17_1, F17_2, F17_3, F17_4, F17_5, F17_6, F17_7⟩ := cz8 BK1044.out
    go_wp2_with (first | ((with_reducible refine gate_callee (f := 76) rfl ?_); refine gl_ (some 18) Tryz.func76 (by kernel_rfl) #[.slice A0 l0.length c0, .func (.func 77) #[] #[.pointer (some ⟨gb1044, 0, none⟩)]] rfl ?_; (with_reducible refine (standin_IndexName.calls _ _ l0 a1_0 a1_1 a1_2 a1_3 a1_4 a1_5 a1_6 _ _ l1_7 t1046 _ ?side1 ?side2 ?side3 ?side4 gb1044 (bk BK1044.out) A13.out).mono ?_); (case side1 => repeat (first | exact (Kd.C_below HR0.out HB.out) | (with_reducible refine Kd.C_alloc ?_ _) | (with_reducible refine Kd.C_drewN ?_ _) | (with_reducible refine Kd.C_drew ?_))); (case side2 => exact HC0.out); (case side3 => repeat (first | exact (Kd.C_below HR1_7.out HB.out) | (with_reducible refine Kd.C_alloc ?_ _) | (with_reducible refine Kd.C_drewN ?_ _) | (with_reducible refine Kd.C_drew ?_))); (case side4 => exact HC1_7.out); rintro e w18 ⟨rfl, hb⟩; refine ⟨_, rfl, ?_⟩; replace BK1044 := kb BK1044 hb; replace BK1045 := kb BK1045 hb; replace HB := sb HB hb; clear hb; have p1047 : 0 ≤ (t1046 : Int) := of_decide_eq_true tz; have q1047 : t1046 < (l0.length : Int) := of_decide_eq_true tz; obtain ⟨ad1047, e1047, hx1047_0, hx1047_1, hx1047_2, hx1047_3, hx1047_4, hx1047_5⟩ := at_T27 HR0.out t1046 p1047 q1047; cases e1047; replace hx1047_0 := hbw HB.out hx1047_0; replace hx1047_1 := hbw HB.out hx1047_1; replace hx1047_2 := hbw HB.out hx1047_2; replace hx1047_3 := hbw HB.out hx1047_3; replace hx1047_4 := hbw HB.out hx1047_4; replace hx1047_5 := hbw HB.out hx1047_5; replace p1047 := eq_true p1047; replace q1047 := eq_true q1047; obtain ⟨Z19_0, Z19_1, Z19_2, Z19_3, Z19_4, F19_0, F19_1, F19_2, F19_3, F19_4⟩ := cz5 BK1045.out))
    refine bodyPost_ret (results_cell_row rfl _ _ gb1045 25 #[.int .i64 ((rd_T27 l0 t1046).f1.f0), .int .i64 ((rd_T27 l0 t1046).f1.f1.f0), .int .i64 ((rd_T27 l0 t1046).f1.f1.f1), .string ((rd_T27 l0 t1046).f1.f2), .int .i64 ((rd_T27 l0 t1046).f1.f3)] (0, 0) _ rfl (bp BK1045.out) Tryz.underlying25 rfl (by kernel_rfl)) rfl ?_
    exact ⟨az, bz HB.out⟩
   rw [if_neg c15] at H
   exact absurd H (by simp)
  rw [if_neg c14] at H
  exact absurd H (by simp)
 replace H := ine c12 H
 obtain ⟨H, c12b0, c12b1⟩ := H
 by_cases c20 : a1_0 = 17
 ·replace H := ipe c20 H
  obtain ⟨H, c20b0, c20b1⟩ := H
  clear c20
  by_cases c21 : 0 < (l1_7.length : Int)
  ·rw [if_pos c21] at H
   have c21b0 : decide (0 < (l1_7.length : Int)) = true := decide_eq_true c21
   have c21b1 : decide (0 < l1_7.length) = true := decide_eq_true (by omega)
   clear c21
   replace H := obe5 H
   obtain ⟨t1049, t1050, t1051, t1052, t1053, A22, H⟩ := H
   replace H := obe H
   obtain ⟨t1054, A23, H⟩ := H
   have HC24 := am H
   clear H
   have hnb25 := NB1044_1045.out
   have hnc25 := NB1045_1044.out
   obtain ⟨Z26_0, Z26_1, Z26_2, Z26_3, Z26_4, Z26_5, Z26_6, Z26_7, F26_0, F26_1, F26_2, F26_3, F26_4, F26_5, F26_6, F26_7⟩ := cz8 BK1044.out
   have p1048 : 0 ≤ (0 : Int) := (by omega)
   have q1048 : 0 < (l1_7.length : Int) := of_decide_eq_true tz
   obtain ⟨ad1048, A1048_7, c1048_7, e1048, hx1048_0, hx1048_1, hx1048_2, hx1048_3, hx1048_4, hx1048_5, hx1048_6, hx1048_7, hl1048_7, hi1048_7⟩ := at_T31 HR1_7.out 0 p1048 q1048
   cases e1048
   have qi1048 : (0 < l1_7.length) = True := eq_true (by omega)
   (try rw [show ((0 : Int)).toNat = 0 from rfl] at hx1048_0)
   (try rw [show 0 * 8 = 0 from rfl] at hx1048_0)
   (try rw [Addr.add_zero'] at hx1048_0)
   (try rw [show ((0 : Int)).toNat = 0 from rfl] at hx1048_1)
   (try rw [show 0 * 8 = 0 from rfl] at hx1048_1)
   (try rw [Addr.add_zero'] at hx1048_1)
   (try rw [show ((0 : Int)).toNat = 0 from rfl] at hx1048_2)
   (try rw [show 0 * 8 = 0 from rfl] at hx1048_2)
   (try rw [Addr.add_zero'] at hx1048_2)
   (try rw [show ((0 : Int)).toNat = 0 from rfl] at hx1048_3)
   (try rw [show 0 * 8 = 0 from rfl] at hx1048_3)
   (try rw [Addr.add_zero'] at hx1048_3)
   (try rw [show ((0 : Int)).toNat = 0 from rfl] at hx1048_4)
   (try rw [show 0 * 8 = 0 from rfl] at hx1048_4)
   (try rw [Addr.add_zero'] at hx1048_4)
   (try rw [show ((0 : Int)).toNat = 0 from rfl] at hx1048_5)
   (try rw [show 0 * 8 = 0 from rfl] at hx1048_5)
   (try rw [Addr.add_zero'] at hx1048_5)
   (try rw [show ((0 : Int)).toNat = 0 from rfl] at hx1048_6)
   (try rw [show 0 * 8 = 0 from rfl] at hx1048_6)
   (try rw [Addr.add_zero'] at hx1048_6)
   (try rw [show ((0 : Int)).toNat = 0 from rfl] at hx1048_7)
   (try rw [show 0 * 8 = 0 from rfl] at hx1048_7)
   (try rw [Addr.add_zero'] at hx1048_7)
   replace hx1048_0 := hbw HB.out hx1048_0
   replace hx1048_1 := hbw HB.out hx1048_1
   replace hx1048_2 := hbw HB.out hx1048_2
   replace hx1048_3 := hbw HB.out hx1048_3
   replace hx1048_4 := hbw HB.out hx1048_4
   replace hx1048_5 := hbw HB.out hx1048_5
   replace hx1048_6 := hbw HB.out hx1048_6
   replace hx1048_7 := hbw HB.out hx1048_7
   have HR1048_7 := am hi1048_7
   have HC1048_7 := am hl1048_7
   clear hi1048_7 hl1048_7
   replace p1048 := eq_true p1048
   replace q1048 := eq_true q1048
   go_upto_if 32 with (first | ((with_reducible refine gate_callee (f := 41) rfl ?_); refine gl_ (some 31) Tryz.func41 (by kernel_rfl) #[.slice A0 l0.length c0, .agg #[.int .i64 ((rd_T31 l1_7 0).f0), .int .i64 ((rd_T31 l1_7 0).f1.f0), .int .i64 ((rd_T31 l1_7 0).f1.f1.f0), .int .i64 ((rd_T31 l1_7 0).f1.f1.f1), .string ((rd_T31 l1_7 0).f1.f2), .int .i64 ((rd_T31 l1_7 0).f1.f3), .string ((rd_T31 l1_7 0).f2), .slice A1048_7 ((rd_T31 l1_7 0).f3).length c1048_7]] rfl ?_; (with_reducible refine (ih k (by omega) _ _ l0 ((rd_T31 l1_7 0).f0) ((rd_T31 l1_7 0).f1.f0) ((rd_T31 l1_7 0).f1.f1.f0) ((rd_T31 l1_7 0).f1.f1.f1) ((rd_T31 l1_7 0).f1.f2) ((rd_T31 l1_7 0).f1.f3) ((rd_T31 l1_7 0).f2) _ _ ((rd_T31 l1_7 0).f3) t1049 t1050 t1051 t1052 t1053 _ ?side1 ?side2 ?side3 ?side4 ?side5 A22.out).mono ?_); (case side1 => repeat (first | exact (Kd.C_below HR0.out HB.out) | (with_reducible refine Kd.C_alloc ?_ _) | (with_reducible refine Kd.C_drewN ?_ _) | (with_reducible refine Kd.C_drew ?_))); (case side2 => exact HC0.out); (case side3 => repeat (first | exact (Kd.C_below HR1048_7.out HB.out) | (with_reducible refine Kd.C_alloc ?_ _) | (with_reducible refine Kd.C_drewN ?_ _) | (with_reducible refine Kd.C_drew ?_))); (case side4 => exact HC1048_7.out); (case side5 => exact tabs_of HT.out (bz HB.out)); rintro e w27 ⟨rfl, hb⟩; refine ⟨_, rfl, ?_⟩; replace BK1044 := kb BK1044 hb; replace BK1045 := kb BK1045 hb; replace HB := sb HB hb; clear hb) | ((with_reducible refine gate_callee (f := 78) rfl ?_); refine gl_ (some 32) Tryz.func78 (by kernel_rfl) #[.agg #[.int .i64 t1049, .int .i64 t1050, .int .i64 t1051, .string t1052, .int .i64 t1053]] rfl ?_; (with_reducible refine (logic_Is.calls t1049 t1050 t1051 t1052 t1053 t1054 _ A23.out).mono ?_); rintro e w28 ⟨rfl, hb⟩; refine ⟨_, rfl, ?_⟩; replace BK1044 := kb BK1044 hb; replace BK1045 := kb BK1045 hb; replace HB := sb HB hb; clear hb))
   (try simp only [Act.put, List.setIfInBounds_toArray, List.set_cons_zero, List.set_cons_succ])
   have H := HC24.out
   clear HC24
   clear Z26_0 Z26_1 Z26_2 Z26_3 Z26_4 Z26_5 Z26_6 Z26_7 F26_0 F26_1 F26_2 F26_3 F26_4 F26_5 F26_6 F26_7 hx1048_0 hx1048_1 hx1048_2 hx1048_3 hx1048_4 hx1048_5 hx1048_6 hx1048_7
   by_cases c29 : t1054 = true
   ·subst c29
    (try simp only [Bool.not_true, Bool.not_false])
    replace H := ift H
    by_cases c30 : 1 < (l1_7.length : Int)
    ·rw [if_pos c30] at H
     have c30b0 : decide (1 < (l1_7.length : Int)) = true := decide_eq_true c30
     have c30b1 : decide (1 < l1_7.length) = true := decide_eq_true (by omega)
     clear c30
     (first | rw [c30b0] | (simp only [i64_w, i32_w]; rw [c30b0]) | skip)
     replace H := obe5 H
     obtain ⟨t1056, t1057, t1058, t1059, t1060, A31, H⟩ := H
     simp only [Option.some.injEq, Prod.mk.injEq] at H
     obtain ⟨rfl, rfl, rfl, rfl, rfl⟩ := H
     have hnb32 := NB1044_1045.out
     have hnc32 := NB1045_1044.out
     obtain ⟨Z33_0, Z33_1, Z33_2, Z33_3, Z33_4, Z33_5, Z33_6, Z33_7, F33_0, F33_1, F33_2, F33_3, F33_4, F33_5, F33_6, F33_7⟩ := cz8 BK1044.out
     have p1055 : 0 ≤ (1 : Int) := (by omega)
     have q1055 : 1 < (l1_7.length : Int) := of_decide_eq_true tz
     obtain ⟨ad1055, A1055_7, c1055_7, e1055, hx1055_0, hx1055_1, hx1055_2, hx1055_3, hx1055_4, hx1055_5, hx1055_6, hx1055_7, hl1055_7, hi1055_7⟩ := at_T31 HR1_7.out 1 p1055 q1055
     obtain rfl : ad1048 = ad1055 := (by injection e1055)
     (try simp only [show (1 : Int).toNat = 1 from rfl, Nat.reduceMul, Nat.reduceEqDiff, Go.Addr.add, ↓reduceIte] at hx1055_0)
     (try simp only [show (1 : Int).toNat = 1 from rfl, Nat.reduceMul, Nat.reduceEqDiff, Go.Addr.add, ↓reduceIte] at hx1055_1)
     (try simp only [show (1 : Int).toNat = 1 from rfl, Nat.reduceMul, Nat.reduceEqDiff, Go.Addr.add, ↓reduceIte] at hx1055_2)
     (try simp only [show (1 : Int).toNat = 1 from rfl, Nat.reduceMul, Nat.reduceEqDiff, Go.Addr.add, ↓reduceIte] at hx1055_3)
     (try simp only [show (1 : Int).toNat = 1 from rfl, Nat.reduceMul, Nat.reduceEqDiff, Go.Addr.add, ↓reduceIte] at hx1055_4)
     (try simp only [show (1 : Int).toNat = 1 from rfl, Nat.reduceMul, Nat.reduceEqDiff, Go.Addr.add, ↓reduceIte] at hx1055_5)
     (try simp only [show (1 : Int).toNat = 1 from rfl, Nat.reduceMul, Nat.reduceEqDiff, Go.Addr.add, ↓reduceIte] at hx1055_6)
     (try simp only [show (1 : Int).toNat = 1 from rfl, Nat.reduceMul, Nat.reduceEqDiff, Go.Addr.add, ↓reduceIte] at hx1055_7)
     have qi1055 : (1 < l1_7.length) = True := eq_true (by omega)
     (try rw [show ((1 : Int)).toNat = 1 from rfl] at hx1055_0)
     (try rw [show 1 * 8 = 8 from rfl] at hx1055_0)
     (try rw [show ((1 : Int)).toNat = 1 from rfl] at hx1055_1)
     (try rw [show 1 * 8 = 8 from rfl] at hx1055_1)
     (try rw [show ((1 : Int)).toNat = 1 from rfl] at hx1055_2)
     (try rw [show 1 * 8 = 8 from rfl] at hx1055_2)
     (try rw [show ((1 : Int)).toNat = 1 from rfl] at hx1055_3)
     (try rw [show 1 * 8 = 8 from rfl] at hx1055_3)
     (try rw [show ((1 : Int)).toNat = 1 from rfl] at hx1055_4)
     (try rw [show 1 * 8 = 8 from rfl] at hx1055_4)
     (try rw [show ((1 : Int)).toNat = 1 from rfl] at hx1055_5)
     (try rw [show 1 * 8 = 8 from rfl] at hx1055_5)
     (try rw [show ((1 : Int)).toNat = 1 from rfl] at hx1055_6)
     (try rw [show 1 * 8 = 8 from rfl] at hx1055_6)
     (try rw [show ((1 : Int)).toNat = 1 from rfl] at hx1055_7)
     (try rw [show 1 * 8 = 8 from rfl] at hx1055_7)
     replace hx1055_0 := hbw HB.out hx1055_0
     replace hx1055_1 := hbw HB.out hx1055_1
     replace hx1055_2 := hbw HB.out hx1055_2
     replace hx1055_3 := hbw HB.out hx1055_3
     replace hx1055_4 := hbw HB.out hx1055_4
     replace hx1055_5 := hbw HB.out hx1055_5
     replace hx1055_6 := hbw HB.out hx1055_6
     replace hx1055_7 := hbw HB.out hx1055_7
     have HR1055_7 := am hi1055_7
     have HC1055_7 := am hl1055_7
     clear hi1055_7 hl1055_7
     replace p1055 := eq_true p1055
     replace q1055 := eq_true q1055
     go_wp2_with (first | ((with_reducible refine gate_callee (f := 41) rfl ?_); refine gl_ (some 38) Tryz.func41 (by kernel_rfl) #[.slice A0 l0.length c0, .agg #[.int .i64 ((rd_T31 l1_7 1).f0), .int .i64 ((rd_T31 l1_7 1).f1.f0), .int .i64 ((rd_T31 l1_7 1).f1.f1.f0), .int .i64 ((rd_T31 l1_7 1).f1.f1.f1), .string ((rd_T31 l1_7 1).f1.f2), .int .i64 ((rd_T31 l1_7 1).f1.f3), .string ((rd_T31 l1_7 1).f2), .slice A1055_7 ((rd_T31 l1_7 1).f3).length c1055_7]] rfl ?_; (with_reducible refine (ih k (by omega) _ _ l0 ((rd_T31 l1_7 1).f0) ((rd_T31 l1_7 1).f1.f0) ((rd_T31 l1_7 1).f1.f1.f0) ((rd_T31 l1_7 1).f1.f1.f1) ((rd_T31 l1_7 1).f1.f2) ((rd_T31 l1_7 1).f1.f3) ((rd_T31 l1_7 1).f2) _ _ ((rd_T31 l1_7 1).f3) t1056 t1057 t1058 t1059 t1060 _ ?side1 ?side2 ?side3 ?side4 ?side5 A31.out).mono ?_); (case side1 => repeat (first | exact (Kd.C_below HR0.out HB.out) | (with_reducible refine Kd.C_alloc ?_ _) | (with_reducible refine Kd.C_drewN ?_ _) | (with_reducible refine Kd.C_drew ?_))); (case side2 => exact HC0.out); (case side3 => repeat (first | exact (Kd.C_below HR1055_7.out HB.out) | (with_reducible refine Kd.C_alloc ?_ _) | (with_reducible refine Kd.C_drewN ?_ _) | (with_reducible refine Kd.C_drew ?_))); (case side4 => exact HC1055_7.out); (case side5 => exact tabs_of HT.out (bz HB.out)); rintro e w34 ⟨rfl, hb⟩; refine ⟨_, rfl, ?_⟩; replace BK1044 := kb BK1044 hb; replace BK1045 := kb BK1045 hb; replace HB := sb HB hb; clear hb; obtain ⟨Z35_0, Z35_1, Z35_2, Z35_3, Z35_4, F35_0, F35_1, F35_2, F35_3, F35_4⟩ := cz5 BK1045.out))
     refine bodyPost_ret (results_cell_row rfl _ _ gb1045 25 #[.int .i64 t1056, .int .i64 t1057, .int .i64 t1058, .string t1059, .int .i64 t1060] (0, 0) _ rfl (bp BK1045.out) Tryz.underlying25 rfl (by kernel_rfl)) rfl ?_
     exact ⟨az, bz HB.out⟩
    rw [if_neg c30] at H
    exact absurd H (by simp)
   replace c29 := Bool.eq_false_iff.mpr c29
   subst c29
   (try simp only [Bool.not_true, Bool.not_false])
   replace H := iff_ H
   by_cases c36 : 2 < (l1_7.length : Int)
   ·rw [if_pos c36] at H
    have c36b0 : decide (2 < (l1_7.length : Int)) = true := decide_eq_true c36
    have c36b1 : decide (2 < l1_7.length) = true := decide_eq_true (by omega)
    clear c36
    replace H := obe5 H
    obtain ⟨t1062, t1063, t1064, t1065, t1066, A37, H⟩ := H
    simp only [Option.some.injEq, Prod.mk.injEq] at H
    obtain ⟨rfl, rfl, rfl, rfl, rfl⟩ := H
    have hnb38 := NB1044_1045.out
    have hnc38 := NB1045_1044.out
    obtain ⟨Z39_0, Z39_1, Z39_2, Z39_3, Z39_4, Z39_5, Z39_6, Z39_7, F39_0, F39_1, F39_2, F39_3, F39_4, F39_5, F39_6, F39_7⟩ := cz8 BK1044.out
    have p1061 : 0 ≤ (2 : Int) := (by omega)
    have q1061 : 2 < (l1_7.length : Int) := of_decide_eq_true tz
    obtain ⟨ad1061, A1061_7, c1061_7, e1061, hx1061_0, hx1061_1, hx1061_2, hx1061_3, hx1061_4, hx1061_5, hx1061_6, hx1061_7, hl1061_7, hi1061_7⟩ := at_T31 HR1_7.out 2 p1061 q1061
    obtain rfl : ad1048 = ad1061 := (by injection e1061)
    (try simp only [show (2 : Int).toNat = 2 from rfl, Nat.reduceMul, Nat.reduceEqDiff, Go.Addr.add, ↓reduceIte] at hx1061_0)
    (try simp only [show (2 : Int).toNat = 2 from rfl, Nat.reduceMul, Nat.reduceEqDiff, Go.Addr.add, ↓reduceIte] at hx1061_1)
    (try simp only [show (2 : Int).toNat = 2 from rfl, Nat.reduceMul, Nat.reduceEqDiff, Go.Addr.add, ↓reduceIte] at hx1061_2)
    (try simp only [show (2 : Int).toNat = 2 from rfl, Nat.reduceMul, Nat.reduceEqDiff, Go.Addr.add, ↓reduceIte] at hx1061_3)
    (try simp only [show (2 : Int).toNat = 2 from rfl, Nat.reduceMul, Nat.reduceEqDiff, Go.Addr.add, ↓reduceIte] at hx1061_4)
    (try simp only [show (2 : Int).toNat = 2 from rfl, Nat.reduceMul, Nat.reduceEqDiff, Go.Addr.add, ↓reduceIte] at hx1061_5)
    (try simp only [show (2 : Int).toNat = 2 from rfl, Nat.reduceMul, Nat.reduceEqDiff, Go.Addr.add, ↓reduceIte] at hx1061_6)
    (try simp only [show (2 : Int).toNat = 2 from rfl, Nat.reduceMul, Nat.reduceEqDiff, Go.Addr.add, ↓reduceIte] at hx1061_7)
    have qi1061 : (2 < l1_7.length) = True := eq_true (by omega)
    (try rw [show ((2 : Int)).toNat = 2 from rfl] at hx1061_0)
    (try rw [show 2 * 8 = 16 from rfl] at hx1061_0)
    (try rw [show ((2 : Int)).toNat = 2 from rfl] at hx1061_1)
    (try rw [show 2 * 8 = 16 from rfl] at hx1061_1)
    (try rw [show ((2 : Int)).toNat = 2 from rfl] at hx1061_2)
    (try rw [show 2 * 8 = 16 from rfl] at hx1061_2)
    (try rw [show ((2 : Int)).toNat = 2 from rfl] at hx1061_3)
    (try rw [show 2 * 8 = 16 from rfl] at hx1061_3)
    (try rw [show ((2 : Int)).toNat = 2 from rfl] at hx1061_4)
    (try rw [show 2 * 8 = 16 from rfl] at hx1061_4)
    (try rw [show ((2 : Int)).toNat = 2 from rfl] at hx1061_5)
    (try rw [show 2 * 8 = 16 from rfl] at hx1061_5)
    (try rw [show ((2 : Int)).toNat = 2 from rfl] at hx1061_6)
    (try rw [show 2 * 8 = 16 from rfl] at hx1061_6)
    (try rw [show ((2 : Int)).toNat = 2 from rfl] at hx1061_7)
    (try rw [show 2 * 8 = 16 from rfl] at hx1061_7)
    replace hx1061_0 := hbw HB.out hx1061_0
    replace hx1061_1 := hbw HB.out hx1061_1
    replace hx1061_2 := hbw HB.out hx1061_2
    replace hx1061_3 := hbw HB.out hx1061_3
    replace hx1061_4 := hbw HB.out hx1061_4
    replace hx1061_5 := hbw HB.out hx1061_5
    replace hx1061_6 := hbw HB.out hx1061_6
    replace hx1061_7 := hbw HB.out hx1061_7
    have HR1061_7 := am hi1061_7
    have HC1061_7 := am hl1061_7
    clear hi1061_7 hl1061_7
    replace p1061 := eq_true p1061
    replace q1061 := eq_true q1061
    go_wp2_with (first | ((with_reducible refine gate_callee (f := 41) rfl ?_); refine gl_ (some 44) Tryz.func41 (by kernel_rfl) #[.slice A0 l0.length c0, .agg #[.int .i64 ((rd_T31 l1_7 2).f0), .int .i64 ((rd_T31 l1_7 2).f1.f0), .int .i64 ((rd_T31 l1_7 2).f1.f1.f0), .int .i64 ((rd_T31 l1_7 2).f1.f1.f1), .string ((rd_T31 l1_7 2).f1.f2), .int .i64 ((rd_T31 l1_7 2).f1.f3), .string ((rd_T31 l1_7 2).f2), .slice A1061_7 ((rd_T31 l1_7 2).f3).length c1061_7]] rfl ?_; (with_reducible refine (ih k (by omega) _ _ l0 ((rd_T31 l1_7 2).f0) ((rd_T31 l1_7 2).f1.f0) ((rd_T31 l1_7 2).f1.f1.f0) ((rd_T31 l1_7 2).f1.f1.f1) ((rd_T31 l1_7 2).f1.f2) ((rd_T31 l1_7 2).f1.f3) ((rd_T31 l1_7 2).f2) _ _ ((rd_T31 l1_7 2).f3) t1062 t1063 t1064 t1065 t1066 _ ?side1 ?side2 ?side3 ?side4 ?side5 A37.out).mono ?_); (case side1 => repeat (first | exact (Kd.C_below HR0.out HB.out) | (with_reducible refine Kd.C_alloc ?_ _) | (with_reducible refine Kd.C_drewN ?_ _) | (with_reducible refine Kd.C_drew ?_))); (case side2 => exact HC0.out); (case side3 => repeat (first | exact (Kd.C_below HR1061_7.out HB.out) | (with_reducible refine Kd.C_alloc ?_ _) | (with_reducible refine Kd.C_drewN ?_ _) | (with_reducible refine Kd.C_drew ?_))); (case side4 => exact HC1061_7.out); (case side5 => exact tabs_of HT.out (bz HB.out)); rintro e w40 ⟨rfl, hb⟩; refine ⟨_, rfl, ?_⟩; replace BK1044 := kb BK1044 hb; replace BK1045 := kb BK1045 hb; replace HB := sb HB hb; clear hb; obtain ⟨Z41_0, Z41_1, Z41_2, Z41_3, Z41_4, F41_0, F41_1, F41_2, F41_3, F41_4⟩ := cz5 BK1045.out))
    refine bodyPost_ret (results_cell_row rfl _ _ gb1045 25 #[.int .i64 t1062, .int .i64 t1063, .int .i64 t1064, .string t1065, .int .i64 t1066] (0, 0) _ rfl (bp BK1045.out) Tryz.underlying25 rfl (by kernel_rfl)) rfl ?_
    exact ⟨az, bz HB.out⟩
   rw [if_neg c36] at H
   exact absurd H (by simp)
  rw [if_neg c21] at H
  exact absurd H (by simp)
 replace H := ine c20 H
 obtain ⟨H, c20b0, c20b1⟩ := H
 by_cases c42 : 0 < (l1_7.length : Int)
 ·rw [if_pos c42] at H
  have c42b0 : decide (0 < (l1_7.length : Int)) = true := decide_eq_true c42
  have c42b1 : decide (0 < l1_7.length) = true := decide_eq_true (by omega)
  clear c42
  replace H := obe5 H
  obtain ⟨t1068, t1069, t1070, t1071, t1072, A43, H⟩ := H
  by_cases c44 : a1_0 = 3
  ·rw [if_pos c44] at H
   exact absurd H (by simp)
  replace H := ine c44 H
  obtain ⟨H, c44b0, c44b1⟩ := H
  have HC45 := am H
  clear H
  have hnb46 := NB1044_1045.out
  have hnc46 := NB1045_1044.out
  obtain ⟨Z47_0, Z47_1, Z47_2, Z47_3, Z47_4, Z47_5, Z47_6, Z47_7, F47_0, F47_1, F47_2, F47_3, F47_4, F47_5, F47_6, F47_7⟩ := cz8 BK1044.out
  have p1067 : 0 ≤ (0 : Int) := (by omega)
  have q1067 : 0 < (l1_7.length : Int) := of_decide_eq_true tz
  obtain ⟨ad1067, A1067_7, c1067_7, e1067, hx1067_0, hx1067_1, hx1067_2, hx1067_3, hx1067_4, hx1067_5, hx1067_6, hx1067_7, hl1067_7, hi1067_7⟩ := at_T31 HR1_7.out 0 p1067 q1067
  cases e1067
  have qi1067 : (0 < l1_7.length) = True := eq_true (by omega)
  (try rw [show ((0 : Int)).toNat = 0 from rfl] at hx1067_0)
  (try rw [show 0 * 8 = 0 from rfl] at hx1067_0)
  (try rw [Addr.add_zero'] at hx1067_0)
  (try rw [show ((0 : Int)).toNat = 0 from rfl] at hx1067_1)
  (try rw [show 0 * 8 = 0 from rfl] at hx1067_1)
  (try rw [Addr.add_zero'] at hx1067_1)
  (try rw [show ((0 : Int)).toNat = 0 from rfl] at hx1067_2)
  (try rw [show 0 * 8 = 0 from rfl] at hx1067_2)
  (try rw [Addr.add_zero'] at hx1067_2)
  (try rw [show ((0 : Int)).toNat = 0 from rfl] at hx1067_3)
  (try rw [show 0 * 8 = 0 from rfl] at hx1067_3)
  (try rw [Addr.add_zero'] at hx1067_3)
  (try rw [show ((0 : Int)).toNat = 0 from rfl] at hx1067_4)
  (try rw [show 0 * 8 = 0 from rfl] at hx1067_4)
  (try rw [Addr.add_zero'] at hx1067_4)
  (try rw [show ((0 : Int)).toNat = 0 from rfl] at hx1067_5)
  (try rw [show 0 * 8 = 0 from rfl] at hx1067_5)
  (try rw [Addr.add_zero'] at hx1067_5)
  (try rw [show ((0 : Int)).toNat = 0 from rfl] at hx1067_6)
  (try rw [show 0 * 8 = 0 from rfl] at hx1067_6)
  (try rw [Addr.add_zero'] at hx1067_6)
  (try rw [show ((0 : Int)).toNat = 0 from rfl] at hx1067_7)
  (try rw [show 0 * 8 = 0 from rfl] at hx1067_7)
  (try rw [Addr.add_zero'] at hx1067_7)
  replace hx1067_0 := hbw HB.out hx1067_0
  replace hx1067_1 := hbw HB.out hx1067_1
  replace hx1067_2 := hbw HB.out hx1067_2
  replace hx1067_3 := hbw HB.out hx1067_3
  replace hx1067_4 := hbw HB.out hx1067_4
  replace hx1067_5 := hbw HB.out hx1067_5
  replace hx1067_6 := hbw HB.out hx1067_6
  replace hx1067_7 := hbw HB.out hx1067_7
  have HR1067_7 := am hi1067_7
  have HC1067_7 := am hl1067_7
  clear hi1067_7 hl1067_7
  replace p1067 := eq_true p1067
  replace q1067 := eq_true q1067
  go_upto_if 58 with (first | ((with_reducible refine gate_callee (f := 41) rfl ?_); refine gl_ (some 50) Tryz.func41 (by kernel_rfl) #[.slice A0 l0.length c0, .agg #[.int .i64 ((rd_T31 l1_7 0).f0), .int .i64 ((rd_T31 l1_7 0).f1.f0), .int .i64 ((rd_T31 l1_7 0).f1.f1.f0), .int .i64 ((rd_T31 l1_7 0).f1.f1.f1), .string ((rd_T31 l1_7 0).f1.f2), .int .i64 ((rd_T31 l1_7 0).f1.f3), .string ((rd_T31 l1_7 0).f2), .slice A1067_7 ((rd_T31 l1_7 0).f3).length c1067_7]] rfl ?_; (with_reducible refine (ih k (by omega) _ _ l0 ((rd_T31 l1_7 0).f0) ((rd_T31 l1_7 0).f1.f0) ((rd_T31 l1_7 0).f1.f1.f0) ((rd_T31 l1_7 0).f1.f1.f1) ((rd_T31 l1_7 0).f1.f2) ((rd_T31 l1_7 0).f1.f3) ((rd_T31 l1_7 0).f2) _ _ ((rd_T31 l1_7 0).f3) t1068 t1069 t1070 t1071 t1072 _ ?side1 ?side2 ?side3 ?side4 ?side5 A43.out).mono ?_); (case side1 => repeat (first | exact (Kd.C_below HR0.out HB.out) | (with_reducible refine Kd.C_alloc ?_ _) | (with_reducible refine Kd.C_drewN ?_ _) | (with_reducible refine Kd.C_drew ?_))); (case side2 => exact HC0.out); (case side3 => repeat (first | exact (Kd.C_below HR1067_7.out HB.out) | (with_reducible refine Kd.C_alloc ?_ _) | (with_reducible refine Kd.C_drewN ?_ _) | (with_reducible refine Kd.C_drew ?_))); (case side4 => exact HC1067_7.out); (case side5 => exact tabs_of HT.out (bz HB.out)); rintro e w48 ⟨rfl, hb⟩; refine ⟨_, rfl, ?_⟩; replace BK1044 := kb BK1044 hb; replace BK1045 := kb BK1045 hb; replace HB := sb HB hb; clear hb) | ((with_reducible refine gate_dst (N := 6) rfl ?_); refine bev (#[.int .i64 0, .int .i64 0, .int .i64 0, .string (⟨#[]⟩ : ByteArray), .int .i64 0]) 25 ?_; intro gb1073 hg w49 hbox hb; have BK1073 := am (hbox); have GW1073 := gs hg HB; have GE1073 := GW1073; replace HB := sb HB hb; have NB1044_1073 := na hg BK1044; have NB1073_1044 := nb hg BK1044; replace BK1044 := kb BK1044 hb; have NB1045_1073 := na hg BK1045; have NB1073_1045 := nb hg BK1045; replace BK1045 := kb BK1045 hb; clear hb hbox hg; have hnb50 := NB1073_1044.out; have hnc50 := NB1044_1073.out; have hnb51 := NB1073_1045.out; have hnc51 := NB1045_1073.out; obtain ⟨Z52_0, Z52_1, Z52_2, Z52_3, Z52_4, F52_0, F52_1, F52_2, F52_3, F52_4⟩ := cz5 BK1073.out; obtain ⟨Z53_0, Z53_1, Z53_2, Z53_3, Z53_4, Z53_5, Z53_6, Z53_7, F53_0, F53_1, F53_2, F53_3, F53_4, F53_5, F53_6, F53_7⟩ := cz8 BK1044.out))
  (try simp only [Act.put, List.setIfInBounds_toArray, List.set_cons_zero, List.set_cons_succ])
  have H := HC45.out
  clear HC45
  clear Z47_0 Z47_1 Z47_2 Z47_3 Z47_4 Z47_5 Z47_6 Z47_7 F47_0 F47_1 F47_2 F47_3 F47_4 F47_5 F47_6 F47_7 hx1067_0 hx1067_1 hx1067_2 hx1067_3 hx1067_4 hx1067_5 hx1067_6 hx1067_7 Z52_0 Z52_1 Z52_2 Z52_3 Z52_4 F52_0 F52_1 F52_2 F52_3 F52_4 Z53_0 Z53_1 Z53_2 Z53_3 Z53_4 Z53_5 Z53_6 Z53_7 F53_0 F53_1 F53_2 F53_3 F53_4 F53_5 F53_6 F53_7
  by_cases c54 : a1_0 = 16
  ·replace H := ipe c54 H
   obtain ⟨H, c54b0, c54b1⟩ := H
   clear c54
   (first | rw [c54b0] | (simp only [i64_w, i32_w]; rw [c54b0]) | skip)
   replace H := obe5 H
   obtain ⟨t1074, t1075, t1076, t1077, t1078, A55, H⟩ := H
   simp only [Option.some.injEq, Prod.mk.injEq] at H
   obtain ⟨rfl, rfl, rfl, rfl, rfl⟩ := H
   have hnb56 := NB1073_1044.out
   have hnc56 := NB1044_1073.out
   have hnb57 := NB1073_1045.out
   have hnc57 := NB1045_1073.out
   obtain ⟨Z58_0, Z58_1, Z58_2, Z58_3, Z58_4, F58_0, F58_1, F58_2, F58_3, F58_4⟩ := cz5 BK1073.out
   go_wp2_with (first | ((with_reducible refine gate_callee (f := 80) rfl ?_); refine gl_ (some 61) Tryz.func80 (by kernel_rfl) #[.agg #[.int .i64 t1068, .int .i64 t1069, .int .i64 t1070, .string t1071, .int .i64 t1072]] rfl ?_; (with_reducible refine (logic_Not.calls t1068 t1069 t1070 t1071 t1072 t1074 t1075 t1076 t1077 t1078 _ A55.out).mono ?_); rintro e w59 ⟨rfl, hb⟩; refine ⟨_, rfl, ?_⟩; replace BK1044 := am (blk_below (g := gb1044) (o := .cells #[.int .i64 a1_0, .int .i64 a1_1, .int .i64 a1_2, .int .i64 a1_3, .string a1_4, .int .i64 a1_5, .string a1_6, .slice (some ad1067) l1_7.length c1_7] 31 (0, 0)) (bp BK1044.out) hb); replace BK1045 := am (blk_below (g := gb1045) (o := .cells #[.int .i64 0, .int .i64 0, .int .i64 0, .string (⟨#[]⟩ : ByteArray), .int .i64 0] 25 (0, 0)) (bp BK1045.out) hb); replace BK1073 := am (blk_below (g := gb1073) (o := .cells #[.int .i64 t1068, .int .i64 t1069, .int .i64 t1070, .string t1071, .int .i64 t1072] 25 (0, 0)) (bp BK1073.out) hb); replace HB := sb HB hb; clear hb; have hnb60 := NB1045_1044.out; have hnc60 := NB1044_1045.out; obtain ⟨Z61_0, Z61_1, Z61_2, Z61_3, Z61_4, F61_0, F61_1, F61_2, F61_3, F61_4⟩ := cz5 BK1045.out))
   refine bodyPost_ret (results_cell_row rfl _ _ gb1045 25 #[.int .i64 t1074, .int .i64 t1075, .int .i64 t1076, .string t1077, .int .i64 t1078] (0, 0) _ rfl (bp BK1045.out) Tryz.underlying25 rfl (by kernel_rfl)) rfl ?_
   exact ⟨az, bz HB.out⟩
  replace H := ine c54 H
  obtain ⟨H, c54b0, c54b1⟩ := H
  (first | rw [c54b0] | (simp only [i64_w, i32_w]; rw [c54b0]) | skip)
  by_cases c62 : 1 < (l1_7.length : Int)
  ·rw [if_pos c62] at H
   have c62b0 : decide (1 < (l1_7.length : Int)) = true := decide_eq_true c62
   have c62b1 : decide (1 < l1_7.length) = true := decide_eq_true (by omega)
   clear c62
   replace H := obe5 H
   obtain ⟨t1080, t1081, t1082, t1083, t1084, A63, H⟩ := H
   have HC64 := am H
   clear H
   have hnb65 := NB1044_1045.out
   have hnc65 := NB1045_1044.out
   have hnb66 := NB1044_1073.out
   have hnc66 := NB1073_1044.out
   obtain ⟨Z67_0, Z67_1, Z67_2, Z67_3, Z67_4, Z67_5, Z67_6, Z67_7, F67_0, F67_1, F67_2, F67_3, F67_4, F67_5, F67_6, F67_7⟩ := cz8 BK1044.out
   have p1079 : 0 ≤ (1 : Int) := (by omega)
   have q1079 : 1 < (l1_7.length : Int) := of_decide_eq_true tz
   obtain ⟨ad1079, A1079_7, c1079_7, e1079, hx1079_0, hx1079_1, hx1079_2, hx1079_3, hx1079_4, hx1079_5, hx1079_6, hx1079_7, hl1079_7, hi1079_7⟩ := at_T31 HR1_7.out 1 p1079 q1079
   obtain rfl : ad1067 = ad1079 := (by injection e1079)
   (try simp only [show (1 : Int).toNat = 1 from rfl, Nat.reduceMul, Nat.reduceEqDiff, Go.Addr.add, ↓reduceIte] at hx1079_0)
   (try simp only [show (1 : Int).toNat = 1 from rfl, Nat.reduceMul, Nat.reduceEqDiff, Go.Addr.add, ↓reduceIte] at hx1079_1)
   (try simp only [show (1 : Int).toNat = 1 from rfl, Nat.reduceMul, Nat.reduceEqDiff, Go.Addr.add, ↓reduceIte] at hx1079_2)
   (try simp only [show (1 : Int).toNat = 1 from rfl, Nat.reduceMul, Nat.reduceEqDiff, Go.Addr.add, ↓reduceIte] at hx1079_3)
   (try simp only [show (1 : Int).toNat = 1 from rfl, Nat.reduceMul, Nat.reduceEqDiff, Go.Addr.add, ↓reduceIte] at hx1079_4)
   (try simp only [show (1 : Int).toNat = 1 from rfl, Nat.reduceMul, Nat.reduceEqDiff, Go.Addr.add, ↓reduceIte] at hx1079_5)
   (try simp only [show (1 : Int).toNat = 1 from rfl, Nat.reduceMul, Nat.reduceEqDiff, Go.Addr.add, ↓reduceIte] at hx1079_6)
   (try simp only [show (1 : Int).toNat = 1 from rfl, Nat.reduceMul, Nat.reduceEqDiff, Go.Addr.add, ↓reduceIte] at hx1079_7)
   have qi1079 : (1 < l1_7.length) = True := eq_true (by omega)
   (try rw [show ((1 : Int)).toNat = 1 from rfl] at hx1079_0)
   (try rw [show 1 * 8 = 8 from rfl] at hx1079_0)
   (try rw [show ((1 : Int)).toNat = 1 from rfl] at hx1079_1)
   (try rw [show 1 * 8 = 8 from rfl] at hx1079_1)
   (try rw [show ((1 : Int)).toNat = 1 from rfl] at hx1079_2)
   (try rw [show 1 * 8 = 8 from rfl] at hx1079_2)
   (try rw [show ((1 : Int)).toNat = 1 from rfl] at hx1079_3)
   (try rw [show 1 * 8 = 8 from rfl] at hx1079_3)
   (try rw [show ((1 : Int)).toNat = 1 from rfl] at hx1079_4)
   (try rw [show 1 * 8 = 8 from rfl] at hx1079_4)
   (try rw [show ((1 : Int)).toNat = 1 from rfl] at hx1079_5)
   (try rw [show 1 * 8 = 8 from rfl] at hx1079_5)
   (try rw [show ((1 : Int)).toNat = 1 from rfl] at hx1079_6)
   (try rw [show 1 * 8 = 8 from rfl] at hx1079_6)
   (try rw [show ((1 : Int)).toNat = 1 from rfl] at hx1079_7)
   (try rw [show 1 * 8 = 8 from rfl] at hx1079_7)
   have hn1079_0 : ad1067.block ≠ gb1073 := Nat.ne_of_lt (Nat.lt_of_lt_of_le (by have := World.block_lt_of_cell? _ _ hx1079_0; first | rwa [add_block] at this | exact this) GW1073.out)
   have hn1079_1 : ad1067.block ≠ gb1073 := Nat.ne_of_lt (Nat.lt_of_lt_of_le (by have := World.block_lt_of_cell? _ _ hx1079_0; first | rwa [add_block] at this | exact this) GW1073.out)
   have hn1079_2 : ad1067.block ≠ gb1073 := Nat.ne_of_lt (Nat.lt_of_lt_of_le (by have := World.block_lt_of_cell? _ _ hx1079_0; first | rwa [add_block] at this | exact this) GW1073.out)
   have hn1079_3 : ad1067.block ≠ gb1073 := Nat.ne_of_lt (Nat.lt_of_lt_of_le (by have := World.block_lt_of_cell? _ _ hx1079_0; first | rwa [add_block] at this | exact this) GW1073.out)
   have hn1079_4 : ad1067.block ≠ gb1073 := Nat.ne_of_lt (Nat.lt_of_lt_of_le (by have := World.block_lt_of_cell? _ _ hx1079_0; first | rwa [add_block] at this | exact this) GW1073.out)
   replace hx1079_0 := hbw HB.out hx1079_0
   replace hx1079_1 := hbw HB.out hx1079_1
   replace hx1079_2 := hbw HB.out hx1079_2
   replace hx1079_3 := hbw HB.out hx1079_3
   replace hx1079_4 := hbw HB.out hx1079_4
   replace hx1079_5 := hbw HB.out hx1079_5
   replace hx1079_6 := hbw HB.out hx1079_6
   replace hx1079_7 := hbw HB.out hx1079_7
   have HR1079_7 := am hi1079_7
   have HC1079_7 := am hl1079_7
   clear hi1079_7 hl1079_7
   replace hx1079_0 := (cell_far (p := ⟨gb1073, 0, none⟩) (by first | (rw [add_block]; exact hn1079_0) | (show (Addr.add _ _).block ≠ _; rw [add_block]; exact hn1079_0) | exact hn1079_0) (.int .i64 t1068)).trans hx1079_0
   replace hx1079_1 := (cell_far (p := ⟨gb1073, 0, none⟩) (by first | (rw [add_block]; exact hn1079_0) | (show (Addr.add _ _).block ≠ _; rw [add_block]; exact hn1079_0) | exact hn1079_0) (.int .i64 t1068)).trans hx1079_1
   replace hx1079_2 := (cell_far (p := ⟨gb1073, 0, none⟩) (by first | (rw [add_block]; exact hn1079_0) | (show (Addr.add _ _).block ≠ _; rw [add_block]; exact hn1079_0) | exact hn1079_0) (.int .i64 t1068)).trans hx1079_2
   replace hx1079_3 := (cell_far (p := ⟨gb1073, 0, none⟩) (by first | (rw [add_block]; exact hn1079_0) | (show (Addr.add _ _).block ≠ _; rw [add_block]; exact hn1079_0) | exact hn1079_0) (.int .i64 t1068)).trans hx1079_3
   replace hx1079_4 := (cell_far (p := ⟨gb1073, 0, none⟩) (by first | (rw [add_block]; exact hn1079_0) | (show (Addr.add _ _).block ≠ _; rw [add_block]; exact hn1079_0) | exact hn1079_0) (.int .i64 t1068)).trans hx1079_4
   replace hx1079_5 := (cell_far (p := ⟨gb1073, 0, none⟩) (by first | (rw [add_block]; exact hn1079_0) | (show (Addr.add _ _).block ≠ _; rw [add_block]; exact hn1079_0) | exact hn1079_0) (.int .i64 t1068)).trans hx1079_5
   replace hx1079_6 := (cell_far (p := ⟨gb1073, 0, none⟩) (by first | (rw [add_block]; exact hn1079_0) | (show (Addr.add _ _).block ≠ _; rw [add_block]; exact hn1079_0) | exact hn1079_0) (.int .i64 t1068)).trans hx1079_6
   replace hx1079_7 := (cell_far (p := ⟨gb1073, 0, none⟩) (by first | (rw [add_block]; exact hn1079_0) | (show (Addr.add _ _).block ≠ _; rw [add_block]; exact hn1079_0) | exact hn1079_0) (.int .i64 t1068)).trans hx1079_7
   replace hx1079_0 := (cell_far (p := ⟨gb1073, 1, none⟩) (by first | (rw [add_block]; exact hn1079_1) | (show (Addr.add _ _).block ≠ _; rw [add_block]; exact hn1079_1) | exact hn1079_1) (.int .i64 t1069)).trans hx1079_0
   replace hx1079_1 := (cell_far (p := ⟨gb1073, 1, none⟩) (by first | (rw [add_block]; exact hn1079_1) | (show (Addr.add _ _).block ≠ _; rw [add_block]; exact hn1079_1) | exact hn1079_1) (.int .i64 t1069)).trans hx1079_1
   replace hx1079_2 := (cell_far (p := ⟨gb1073, 1, none⟩) (by first | (rw [add_block]; exact hn1079_1) | (show (Addr.add _ _).block ≠ _; rw [add_block]; exact hn1079_1) | exact hn1079_1) (.int .i64 t1069)).trans hx1079_2
   replace hx1079_3 := (cell_far (p := ⟨gb1073, 1, none⟩) (by first | (rw [add_block]; exact hn1079_1) | (show (Addr.add _ _).block ≠ _; rw [add_block]; exact hn1079_1) | exact hn1079_1) (.int .i64 t1069)).trans hx1079_3
   replace hx1079_4 := (cell_far (p := ⟨gb1073, 1, none⟩) (by first | (rw [add_block]; exact hn1079_1) | (show (Addr.add _ _).block ≠ _; rw [add_block]; exact hn1079_1) | exact hn1079_1) (.int .i64 t1069)).trans hx1079_4
   replace hx1079_5 := (cell_far (p := ⟨gb1073, 1, none⟩) (by first | (rw [add_block]; exact hn1079_1) | (show (Addr.add _ _).block ≠ _; rw [add_block]; exact hn1079_1) | exact hn1079_1) (.int .i64 t1069)).trans hx1079_5
   replace hx1079_6 := (cell_far (p := ⟨gb1073, 1, none⟩) (by first | (rw [add_block]; exact hn1079_1) | (show (Addr.add _ _).block ≠ _; rw [add_block]; exact hn1079_1) | exact hn1079_1) (.int .i64 t1069)).trans hx1079_6
   replace hx1079_7 := (cell_far (p := ⟨gb1073, 1, none⟩) (by first | (rw [add_block]; exact hn1079_1) | (show (Addr.add _ _).block ≠ _; rw [add_block]; exact hn1079_1) | exact hn1079_1) (.int .i64 t1069)).trans hx1079_7
   replace hx1079_0 := (cell_far (p := ⟨gb1073, 2, none⟩) (by first | (rw [add_block]; exact hn1079_2) | (show (Addr.add _ _).block ≠ _; rw [add_block]; exact hn1079_2) | exact hn1079_2) (.int .i64 t1070)).trans hx1079_0
   replace hx1079_1 := (cell_far (p := ⟨gb1073, 2, none⟩) (by first | (rw [add_block]; exact hn1079_2) | (show (Addr.add _ _).block ≠ _; rw [add_block]; exact hn1079_2) | exact hn1079_2) (.int .i64 t1070)).trans hx1079_1
   replace hx1079_2 := (cell_far (p := ⟨gb1073, 2, none⟩) (by first | (rw [add_block]; exact hn1079_2) | (show (Addr.add _ _).block ≠ _; rw [add_block]; exact hn1079_2) | exact hn1079_2) (.int .i64 t1070)).trans hx1079_2
   replace hx1079_3 := (cell_far (p := ⟨gb1073, 2, none⟩) (by first | (rw [add_block]; exact hn1079_2) | (show (Addr.add _ _).block ≠ _; rw [add_block]; exact hn1079_2) | exact hn1079_2) (.int .i64 t1070)).trans hx1079_3
   replace hx1079_4 := (cell_far (p := ⟨gb1073, 2, none⟩) (by first | (rw [add_block]; exact hn1079_2) | (show (Addr.add _ _).block ≠ _; rw [add_block]; exact hn1079_2) | exact hn1079_2) (.int .i64 t1070)).trans hx1079_4
   replace hx1079_5 := (cell_far (p := ⟨gb1073, 2, none⟩) (by first | (rw [add_block]; exact hn1079_2) | (show (Addr.add _ _).block ≠ _; rw [add_block]; exact hn1079_2) | exact hn1079_2) (.int .i64 t1070)).trans hx1079_5
   replace hx1079_6 := (cell_far (p := ⟨gb1073, 2, none⟩) (by first | (rw [add_block]; exact hn1079_2) | (show (Addr.add _ _).block ≠ _; rw [add_block]; exact hn1079_2) | exact hn1079_2) (.int .i64 t1070)).trans hx1079_6
   replace hx1079_7 := (cell_far (p := ⟨gb1073, 2, none⟩) (by first | (rw [add_block]; exact hn1079_2) | (show (Addr.add _ _).block ≠ _; rw [add_block]; exact hn1079_2) | exact hn1079_2) (.int .i64 t1070)).trans hx1079_7
   replace hx1079_0 := (cell_far (p := ⟨gb1073, 3, none⟩) (by first | (rw [add_block]; exact hn1079_3) | (show (Addr.add _ _).block ≠ _; rw [add_block]; exact hn1079_3) | exact hn1079_3) (.string t1071)).trans hx1079_0
   replace hx1079_1 := (cell_far (p := ⟨gb1073, 3, none⟩) (by first | (rw [add_block]; exact hn1079_3) | (show (Addr.add _ _).block ≠ _; rw [add_block]; exact hn1079_3) | exact hn1079_3) (.string t1071)).trans hx1079_1
   replace hx1079_2 := (cell_far (p := ⟨gb1073, 3, none⟩) (by first | (rw [add_block]; exact hn1079_3) | (show (Addr.add _ _).block ≠ _; rw [add_block]; exact hn1079_3) | exact hn1079_3) (.string t1071)).trans hx1079_2
   replace hx1079_3 := (cell_far (p := ⟨gb1073, 3, none⟩) (by first | (rw [add_block]; exact hn1079_3) | (show (Addr.add _ _).block ≠ _; rw [add_block]; exact hn1079_3) | exact hn1079_3) (.string t1071)).trans hx1079_3
   replace hx1079_4 := (cell_far (p := ⟨gb1073, 3, none⟩) (by first | (rw [add_block]; exact hn1079_3) | (show (Addr.add _ _).block ≠ _; rw [add_block]; exact hn1079_3) | exact hn1079_3) (.string t1071)).trans hx1079_4
   replace hx1079_5 := (cell_far (p := ⟨gb1073, 3, none⟩) (by first | (rw [add_block]; exact hn1079_3) | (show (Addr.add _ _).block ≠ _; rw [add_block]; exact hn1079_3) | exact hn1079_3) (.string t1071)).trans hx1079_5
   replace hx1079_6 := (cell_far (p := ⟨gb1073, 3, none⟩) (by first | (rw [add_block]; exact hn1079_3) | (show (Addr.add _ _).block ≠ _; rw [add_block]; exact hn1079_3) | exact hn1079_3) (.string t1071)).trans hx1079_6
   replace hx1079_7 := (cell_far (p := ⟨gb1073, 3, none⟩) (by first | (rw [add_block]; exact hn1079_3) | (show (Addr.add _ _).block ≠ _; rw [add_block]; exact hn1079_3) | exact hn1079_3) (.string t1071)).trans hx1079_7
   replace hx1079_0 := (cell_far (p := ⟨gb1073, 4, none⟩) (by first | (rw [add_block]; exact hn1079_4) | (show (Addr.add _ _).block ≠ _; rw [add_block]; exact hn1079_4) | exact hn1079_4) (.int .i64 t1072)).trans hx1079_0
   replace hx1079_1 := (cell_far (p := ⟨gb1073, 4, none⟩) (by first | (rw [add_block]; exact hn1079_4) | (show (Addr.add _ _).block ≠ _; rw [add_block]; exact hn1079_4) | exact hn1079_4) (.int .i64 t1072)).trans hx1079_1
   replace hx1079_2 := (cell_far (p := ⟨gb1073, 4, none⟩) (by first | (rw [add_block]; exact hn1079_4) | (show (Addr.add _ _).block ≠ _; rw [add_block]; exact hn1079_4) | exact hn1079_4) (.int .i64 t1072)).trans hx1079_2
   replace hx1079_3 := (cell_far (p := ⟨gb1073, 4, none⟩) (by first | (rw [add_block]; exact hn1079_4) | (show (Addr.add _ _).block ≠ _; rw [add_block]; exact hn1079_4) | exact hn1079_4) (.int .i64 t1072)).trans hx1079_3
   replace hx1079_4 := (cell_far (p := ⟨gb1073, 4, none⟩) (by first | (rw [add_block]; exact hn1079_4) | (show (Addr.add _ _).block ≠ _; rw [add_block]; exact hn1079_4) | exact hn1079_4) (.int .i64 t1072)).trans hx1079_4
   replace hx1079_5 := (cell_far (p := ⟨gb1073, 4, none⟩) (by first | (rw [add_block]; exact hn1079_4) | (show (Addr.add _ _).block ≠ _; rw [add_block]; exact hn1079_4) | exact hn1079_4) (.int .i64 t1072)).trans hx1079_5
   replace hx1079_6 := (cell_far (p := ⟨gb1073, 4, none⟩) (by first | (rw [add_block]; exact hn1079_4) | (show (Addr.add _ _).block ≠ _; rw [add_block]; exact hn1079_4) | exact hn1079_4) (.int .i64 t1072)).trans hx1079_6
   replace hx1079_7 := (cell_far (p := ⟨gb1073, 4, none⟩) (by first | (rw [add_block]; exact hn1079_4) | (show (Addr.add _ _).block ≠ _; rw [add_block]; exact hn1079_4) | exact hn1079_4) (.int .i64 t1072)).trans hx1079_7
   clear hn1079_0 hn1079_1 hn1079_2 hn1079_3 hn1079_4
   replace p1079 := eq_true p1079
   replace q1079 := eq_true q1079
   go_upto_if 70 with (first | ((with_reducible refine gate_callee (f := 41) rfl ?_); refine gl_ (some 67) Tryz.func41 (by kernel_rfl) #[.slice A0 l0.length c0, .agg #[.int .i64 ((rd_T31 l1_7 1).f0), .int .i64 ((rd_T31 l1_7 1).f1.f0), .int .i64 ((rd_T31 l1_7 1).f1.f1.f0), .int .i64 ((rd_T31 l1_7 1).f1.f1.f1), .string ((rd_T31 l1_7 1).f1.f2), .int .i64 ((rd_T31 l1_7 1).f1.f3), .string ((rd_T31 l1_7 1).f2), .slice A1079_7 ((rd_T31 l1_7 1).f3).length c1079_7]] rfl ?_; (with_reducible refine (ih k (by omega) _ _ l0 ((rd_T31 l1_7 1).f0) ((rd_T31 l1_7 1).f1.f0) ((rd_T31 l1_7 1).f1.f1.f0) ((rd_T31 l1_7 1).f1.f1.f1) ((rd_T31 l1_7 1).f1.f2) ((rd_T31 l1_7 1).f1.f3) ((rd_T31 l1_7 1).f2) _ _ ((rd_T31 l1_7 1).f3) t1080 t1081 t1082 t1083 t1084 _ ?side1 ?side2 ?side3 ?side4 ?side5 A63.out).mono ?_); (case side1 => exact Kd.C_below HR0.out (bz HB.out)); (case side2 => exact HC0.out); (case side3 => exact Kd.C_below HR1079_7.out (bz HB.out)); (case side4 => exact HC1079_7.out); (case side5 => exact tabs_of HT.out (bz HB.out)); rintro e w68 ⟨rfl, hb⟩; refine ⟨_, rfl, ?_⟩; replace BK1044 := am (blk_below (g := gb1044) (o := .cells #[.int .i64 a1_0, .int .i64 a1_1, .int .i64 a1_2, .int .i64 a1_3, .string a1_4, .int .i64 a1_5, .string a1_6, .slice (some ad1067) l1_7.length c1_7] 31 (0, 0)) (bp BK1044.out) hb); replace BK1045 := am (blk_below (g := gb1045) (o := .cells #[.int .i64 0, .int .i64 0, .int .i64 0, .string (⟨#[]⟩ : ByteArray), .int .i64 0] 25 (0, 0)) (bp BK1045.out) hb); replace BK1073 := am (blk_below (g := gb1073) (o := .cells #[.int .i64 t1068, .int .i64 t1069, .int .i64 t1070, .string t1071, .int .i64 t1072] 25 (0, 0)) (bp BK1073.out) hb); replace HB := sb HB hb; clear hb) | ((with_reducible refine gate_dst (N := 7) rfl ?_); refine bev (#[.int .i64 0, .int .i64 0, .int .i64 0, .string (⟨#[]⟩ : ByteArray), .int .i64 0]) 25 ?_; intro gb1085 hg w69 hbox hb; have BK1085 := am (hbox); have GW1085 := gs hg HB; have GE1085 := GW1085; replace HB := sb HB hb; have NB1044_1085 := na hg BK1044; have NB1085_1044 := nb hg BK1044; replace BK1044 := kb BK1044 hb; have NB1045_1085 := na hg BK1045; have NB1085_1045 := nb hg BK1045; replace BK1045 := kb BK1045 hb; have NB1073_1085 := na hg BK1073; have NB1085_1073 := nb hg BK1073; replace BK1073 := kb BK1073 hb; clear hb hbox hg; have hnb70 := NB1085_1044.out; have hnc70 := NB1044_1085.out; have hnb71 := NB1085_1045.out; have hnc71 := NB1045_1085.out; have hnb72 := NB1085_1073.out; have hnc72 := NB1073_1085.out; obtain ⟨Z73_0, Z73_1, Z73_2, Z73_3, Z73_4, F73_0, F73_1, F73_2, F73_3, F73_4⟩ := cz5 BK1085.out; obtain ⟨Z74_0, Z74_1, Z74_2, Z74_3, Z74_4, Z74_5, Z74_6, Z74_7, F74_0, F74_1, F74_2, F74_3, F74_4, F74_5, F74_6, F74_7⟩ := cz8 BK1044.out))
   (try simp only [Act.put, List.setIfInBounds_toArray, List.set_cons_zero, List.set_cons_succ])
   have H := HC64.out
   clear HC64
   clear Z67_0 Z67_1 Z67_2 Z67_3 Z67_4 Z67_5 Z67_6 Z67_7 F67_0 F67_1 F67_2 F67_3 F67_4 F67_5 F67_6 F67_7 hx1079_0 hx1079_1 hx1079_2 hx1079_3 hx1079_4 hx1079_5 hx1079_6 hx1079_7 Z73_0 Z73_1 Z73_2 Z73_3 Z73_4 F73_0 F73_1 F73_2 F73_3 F73_4 Z74_0 Z74_1 Z74_2 Z74_3 Z74_4 Z74_5 Z74_6 Z74_7 F74_0 F74_1 F74_2 F74_3 F74_4 F74_5 F74_6 F74_7
   by_cases c75 : a1_0 = 8
   ·replace H := ipe c75 H
    obtain ⟨H, c75b0, c75b1⟩ := H
    clear c75
    (first | rw [c75b0] | (simp only [i64_w, i32_w]; rw [c75b0]) | skip)
    replace H := obe5 H
    obtain ⟨t1086, t1087, t1088, t1089, t1090, A76, H⟩ := H
    simp only [Option.some.injEq, Prod.mk.injEq] at H
    obtain ⟨rfl, rfl, rfl, rfl, rfl⟩ := H
    have hnb77 := NB1073_1044.out
    have hnc77 := NB1044_1073.out
    have hnb78 := NB1073_1045.out
    have hnc78 := NB1045_1073.out
    have hnb79 := NB1073_1085.out
    have hnc79 := NB1085_1073.out
    obtain ⟨Z80_0, Z80_1, Z80_2, Z80_3, Z80_4, F80_0, F80_1, F80_2, F80_3, F80_4⟩ := cz5 BK1073.out
    have hnb81 := NB1085_1044.out
    have hnc81 := NB1044_1085.out
    have hnb82 := NB1085_1045.out
    have hnc82 := NB1045_1085.out
    obtain ⟨Z83_0, Z83_1, Z83_2, Z83_3, Z83_4, F83_0, F83_1, F83_2, F83_3, F83_4⟩ := cz5 BK1085.out
    go_wp2_with (first | ((with_reducible refine gate_callee (f := 26) rfl ?_); refine gl_ (some 74) Tryz.func26 (by kernel_rfl) #[.agg #[.int .i64 t1068, .int .i64 t1069, .int .i64 t1070, .string t1071, .int .i64 t1072], .agg #[.int .i64 t1080, .int .i64 t1081, .int .i64 t1082, .string t1083, .int .i64 t1084]] rfl ?_; (with_reducible refine (calc_Equal.calls k t1068 t1069 t1070 t1071 t1072 t1080 t1081 t1082 t1083 t1084 t1086 t1087 t1088 t1089 t1090 _ ?side1 A76.out).mono ?_); (case side1 => exact tabs_of HT.out (bz HB.out)); rintro e w84 ⟨rfl, hb⟩; refine ⟨_, rfl, ?_⟩; replace BK1044 := am (blk_below (g := gb1044) (o := .cells #[.int .i64 a1_0, .int .i64 a1_1, .int .i64 a1_2, .int .i64 a1_3, .string a1_4, .int .i64 a1_5, .string a1_6, .slice (some ad1067) l1_7.length c1_7] 31 (0, 0)) (bp BK1044.out) hb); replace BK1045 := am (blk_below (g := gb1045) (o := .cells #[.int .i64 0, .int .i64 0, .int .i64 0, .string (⟨#[]⟩ : ByteArray), .int .i64 0] 25 (0, 0)) (bp BK1045.out) hb); replace BK1073 := am (blk_below (g := gb1073) (o := .cells #[.int .i64 t1068, .int .i64 t1069, .int .i64 t1070, .string t1071, .int .i64 t1072] 25 (0, 0)) (bp BK1073.out) hb); replace BK1085 := am (blk_below (g := gb1085) (o := .cells #[.int .i64 t1080, .int .i64 t1081, .int .i64 t1082, .string t1083, .int .i64 t1084] 25 (0, 0)) (bp BK1085.out) hb); replace HB := sb HB hb; clear hb; have hnb85 := NB1045_1044.out; have hnc85 := NB1044_1045.out; obtain ⟨Z86_0, Z86_1, Z86_2, Z86_3, Z86_4, F86_0, F86_1, F86_2, F86_3, F86_4⟩ := cz5 BK1045.out))
    refine bodyPost_ret (results_cell_row rfl _ _ gb1045 25 #[.int .i64 t1086, .int .i64 t1087, .int .i64 t1088, .string t1089, .int .i64 t1090] (0, 0) _ rfl (bp BK1045.out) Tryz.underlying25 rfl (by kernel_rfl)) rfl ?_
    exact ⟨az, bz HB.out⟩
   replace H := ine c75 H
   obtain ⟨H, c75b0, c75b1⟩ := H
   (first | rw [c75b0] | (simp only [i64_w, i32_w]; rw [c75b0]) | skip)
   by_cases c87 : a1_0 = 9
   ·replace H := ipe c87 H
    obtain ⟨H, c87b0, c87b1⟩ := H
    clear c87
    replace H := obe5 H
    obtain ⟨t1091, t1092, t1093, t1094, t1095, A88, H⟩ := H
    replace H := obe5 H
    obtain ⟨t1096, t1097, t1098, t1099, t1100, A89, H⟩ := H
    simp only [Option.some.injEq, Prod.mk.injEq] at H
    obtain ⟨rfl, rfl, rfl, rfl, rfl⟩ := H
    have hnb90 := NB1073_1044.out
    have hnc90 := NB1044_1073.out
    have hnb91 := NB1073_1045.out
    have hnc91 := NB1045_1073.out
    have hnb92 := NB1073_1085.out
    have hnc92 := NB1085_1073.out
    obtain ⟨Z93_0, Z93_1, Z93_2, Z93_3, Z93_4, F93_0, F93_1, F93_2, F93_3, F93_4⟩ := cz5 BK1073.out
    have hnb94 := NB1085_1044.out
    have hnc94 := NB1044_1085.out
    have hnb95 := NB1085_1045.out
    have hnc95 := NB1045_1085.out
    obtain ⟨Z96_0, Z96_1, Z96_2, Z96_3, Z96_4, F96_0, F96_1, F96_2, F96_3, F96_4⟩ := cz5 BK1085.out
    go_wp2_with (first | ((with_reducible refine gate_callee (f := 26) rfl ?_); refine gl_ (some 79) Tryz.func26 (by kernel_rfl) #[.agg #[.int .i64 t1068, .int .i64 t1069, .int .i64 t1070, .string t1071, .int .i64 t1072], .agg #[.int .i64 t1080, .int .i64 t1081, .int .i64 t1082, .string t1083, .int .i64 t1084]] rfl ?_; (with_reducible refine (calc_Equal.calls k t1068 t1069 t1070 t1071 t1072 t1080 t1081 t1082 t1083 t1084 t1091 t1092 t1093 t1094 t1095 _ ?side1 A88.out).mono ?_); (case side1 => exact tabs_of HT.out (bz HB.out)); rintro e w97 ⟨rfl, hb⟩; refine ⟨_, rfl, ?_⟩; replace BK1044 := am (blk_below (g := gb1044) (o := .cells #[.int .i64 a1_0, .int .i64 a1_1, .int .i64 a1_2, .int .i64 a1_3, .string a1_4, .int .i64 a1_5, .string a1_6, .slice (some ad1067) l1_7.length c1_7] 31 (0, 0)) (bp BK1044.out) hb); replace BK1045 := am (blk_below (g := gb1045) (o := .cells #[.int .i64 0, .int .i64 0, .int .i64 0, .string (⟨#[]⟩ : ByteArray), .int .i64 0] 25 (0, 0)) (bp BK1045.out) hb); replace BK1073 := am (blk_below (g := gb1073) (o := .cells #[.int .i64 t1068, .int .i64 t1069, .int .i64 t1070, .string t1071, .int .i64 t1072] 25 (0, 0)) (bp BK1073.out) hb); replace BK1085 := am (blk_below (g := gb1085) (o := .cells #[.int .i64 t1080, .int .i64 t1081, .int .i64 t1082, .string t1083, .int .i64 t1084] 25 (0, 0)) (bp BK1085.out) hb); replace HB := sb HB hb; clear hb) | ((with_reducible refine gate_callee (f := 80) rfl ?_); refine gl_ (some 80) Tryz.func80 (by kernel_rfl) #[.agg #[.int .i64 t1091, .int .i64 t1092, .int .i64 t1093, .string t1094, .int .i64 t1095]] rfl ?_; (with_reducible refine (logic_Not.calls t1091 t1092 t1093 t1094 t1095 t1096 t1097 t1098 t1099 t1100 _ A89.out).mono ?_); rintro e w98 ⟨rfl, hb⟩; refine ⟨_, rfl, ?_⟩; replace BK1044 := kb BK1044 hb; replace BK1045 := kb BK1045 hb; replace BK1073 := kb BK1073 hb; replace BK1085 := kb BK1085 hb; replace HB := sb HB hb; clear hb; have hnb99 := NB1045_1044.out; have hnc99 := NB1044_1045.out; obtain ⟨Z100_0, Z100_1, Z100_2, Z100_3, Z100_4, F100_0, F100_1, F100_2, F100_3, F100_4⟩ := cz5 BK1045.out))
    refine bodyPost_ret (results_cell_row rfl _ _ gb1045 25 #[.int .i64 t1096, .int .i64 t1097, .int .i64 t1098, .string t1099, .int .i64 t1100] (0, 0) _ rfl (bp BK1045.out) Tryz.underlying25 rfl (by kernel_rfl)) rfl ?_
    exact ⟨az, bz HB.out⟩
   replace H := ine c87 H
   obtain ⟨H, c87b0, c87b1⟩ := H
   by_cases c101 : a1_0 = 10
   ·replace H := ipe c101 H
    obtain ⟨H, c101b0, c101b1⟩ := H
    clear c101
    replace H := obe5 H
    obtain ⟨t1101, t1102, t1103, t1104, t1105, A102, H⟩ := H
    simp only [Option.some.injEq, Prod.mk.injEq] at H
    obtain ⟨rfl, rfl, rfl, rfl, rfl⟩ := H
    have hnb103 := NB1073_1044.out
    have hnc103 := NB1044_1073.out
    have hnb104 := NB1073_1045.out
    have hnc104 := NB1045_1073.out
    have hnb105 := NB1073_1085.out
    have hnc105 := NB1085_1073.out
    obtain ⟨Z106_0, Z106_1, Z106_2, Z106_3, Z106_4, F106_0, F106_1, F106_2, F106_3, F106_4⟩ := cz5 BK1073.out
    have hnb107 := NB1085_1044.out
    have hnc107 := NB1044_1085.out
    have hnb108 := NB1085_1045.out
    have hnc108 := NB1045_1085.out
    obtain ⟨Z109_0, Z109_1, Z109_2, Z109_3, Z109_4, F109_0, F109_1, F109_2, F109_3, F109_4⟩ := cz5 BK1085.out
    go_wp2_with (first | ((with_reducible refine gate_callee (f := 28) rfl ?_); refine gl_ (some 85) Tryz.func28 (by kernel_rfl) #[.agg #[.int .i64 t1068, .int .i64 t1069, .int .i64 t1070, .string t1071, .int .i64 t1072], .agg #[.int .i64 t1080, .int .i64 t1081, .int .i64 t1082, .string t1083, .int .i64 t1084]] rfl ?_; (with_reducible refine (calc_Less.calls k t1068 t1069 t1070 t1071 t1072 t1080 t1081 t1082 t1083 t1084 t1101 t1102 t1103 t1104 t1105 _ ?side1 A102.out).mono ?_); (case side1 => exact tabs_of HT.out (bz HB.out)); rintro e w110 ⟨rfl, hb⟩; refine ⟨_, rfl, ?_⟩; replace BK1044 := am (blk_below (g := gb1044) (o := .cells #[.int .i64 a1_0, .int .i64 a1_1, .int .i64 a1_2, .int .i64 a1_3, .string a1_4, .int .i64 a1_5, .string a1_6, .slice (some ad1067) l1_7.length c1_7] 31 (0, 0)) (bp BK1044.out) hb); replace BK1045 := am (blk_below (g := gb1045) (o := .cells #[.int .i64 0, .int .i64 0, .int .i64 0, .string (⟨#[]⟩ : ByteArray), .int .i64 0] 25 (0, 0)) (bp BK1045.out) hb); replace BK1073 := am (blk_below (g := gb1073) (o := .cells #[.int .i64 t1068, .int .i64 t1069, .int .i64 t1070, .string t1071, .int .i64 t1072] 25 (0, 0)) (bp BK1073.out) hb); replace BK1085 := am (blk_below (g := gb1085) (o := .cells #[.int .i64 t1080, .int .i64 t1081, .int .i64 t1082, .string t1083, .int .i64 t1084] 25 (0, 0)) (bp BK1085.out) hb); replace HB := sb HB hb; clear hb; have hnb111 := NB1045_1044.out; have hnc111 := NB1044_1045.out; obtain ⟨Z112_0, Z112_1, Z112_2, Z112_3, Z112_4, F112_0, F112_1, F112_2, F112_3, F112_4⟩ := cz5 BK1045.out))
    refine bodyPost_ret (results_cell_row rfl _ _ gb1045 25 #[.int .i64 t1101, .int .i64 t1102, .int .i64 t1103, .string t1104, .int .i64 t1105] (0, 0) _ rfl (bp BK1045.out) Tryz.underlying25 rfl (by kernel_rfl)) rfl ?_
    exact ⟨az, bz HB.out⟩
   replace H := ine c101 H
   obtain ⟨H, c101b0, c101b1⟩ := H
   by_cases c113 : a1_0 = 12
   ·replace H := ipe c113 H
    obtain ⟨H, c113b0, c113b1⟩ := H
    clear c113
    replace H := obe5 H
    obtain ⟨t1106, t1107, t1108, t1109, t1110, A114, H⟩ := H
    simp only [Option.some.injEq, Prod.mk.injEq] at H
    obtain ⟨rfl, rfl, rfl, rfl, rfl⟩ := H
    have hnb115 := NB1085_1044.out
    have hnc115 := NB1044_1085.out
    have hnb116 := NB1085_1045.out
    have hnc116 := NB1045_1085.out
    have hnb117 := NB1085_1073.out
    have hnc117 := NB1073_1085.out
    obtain ⟨Z118_0, Z118_1, Z118_2, Z118_3, Z118_4, F118_0, F118_1, F118_2, F118_3, F118_4⟩ := cz5 BK1085.out
    have hnb119 := NB1073_1044.out
    have hnc119 := NB1044_1073.out
    have hnb120 := NB1073_1045.out
    have hnc120 := NB1045_1073.out
    obtain ⟨Z121_0, Z121_1, Z121_2, Z121_3, Z121_4, F121_0, F121_1, F121_2, F121_3, F121_4⟩ := cz5 BK1073.out
    go_wp2_with (first | ((with_reducible refine gate_callee (f := 28) rfl ?_); refine gl_ (some 90) Tryz.func28 (by kernel_rfl) #[.agg #[.int .i64 t1080, .int .i64 t1081, .int .i64 t1082, .string t1083, .int .i64 t1084], .agg #[.int .i64 t1068, .int .i64 t1069, .int .i64 t1070, .string t1071, .int .i64 t1072]] rfl ?_; (with_reducible refine (calc_Less.calls k t1080 t1081 t1082 t1083 t1084 t1068 t1069 t1070 t1071 t1072 t1106 t1107 t1108 t1109 t1110 _ ?side1 A114.out).mono ?_); (case side1 => exact tabs_of HT.out (bz HB.out)); rintro e w122 ⟨rfl, hb⟩; refine ⟨_, rfl, ?_⟩; replace BK1044 := am (blk_below (g := gb1044) (o := .cells #[.int .i64 a1_0, .int .i64 a1_1, .int .i64 a1_2, .int .i64 a1_3, .string a1_4, .int .i64 a1_5, .string a1_6, .slice (some ad1067) l1_7.length c1_7] 31 (0, 0)) (bp BK1044.out) hb); replace BK1045 := am (blk_below (g := gb1045) (o := .cells #[.int .i64 0, .int .i64 0, .int .i64 0, .string (⟨#[]⟩ : ByteArray), .int .i64 0] 25 (0, 0)) (bp BK1045.out) hb); replace BK1073 := am (blk_below (g := gb1073) (o := .cells #[.int .i64 t1068, .int .i64 t1069, .int .i64 t1070, .string t1071, .int .i64 t1072] 25 (0, 0)) (bp BK1073.out) hb); replace BK1085 := am (blk_below (g := gb1085) (o := .cells #[.int .i64 t1080, .int .i64 t1081, .int .i64 t1082, .string t1083, .int .i64 t1084] 25 (0, 0)) (bp BK1085.out) hb); replace HB := sb HB hb; clear hb; have hnb123 := NB1045_1044.out; have hnc123 := NB1044_1045.out; obtain ⟨Z124_0, Z124_1, Z124_2, Z124_3, Z124_4, F124_0, F124_1, F124_2, F124_3, F124_4⟩ := cz5 BK1045.out))
    refine bodyPost_ret (results_cell_row rfl _ _ gb1045 25 #[.int .i64 t1106, .int .i64 t1107, .int .i64 t1108, .string t1109, .int .i64 t1110] (0, 0) _ rfl (bp BK1045.out) Tryz.underlying25 rfl (by kernel_rfl)) rfl ?_
    exact ⟨az, bz HB.out⟩
   replace H := ine c113 H
   obtain ⟨H, c113b0, c113b1⟩ := H
   by_cases c125 : a1_0 = 11
   ·replace H := ipe c125 H
    obtain ⟨H, c125b0, c125b1⟩ := H
    clear c125
    replace H := obe5 H
    obtain ⟨t1111, t1112, t1113, t1114, t1115, A126, H⟩ := H
    replace H := obe5 H
    obtain ⟨t1116, t1117, t1118, t1119, t1120, A127, H⟩ := H
    simp only [Option.some.injEq, Prod.mk.injEq] at H
    obtain ⟨rfl, rfl, rfl, rfl, rfl⟩ := H
    have hnb128 := NB1085_1044.out
    have hnc128 := NB1044_1085.out
    have hnb129 := NB1085_1045.out
    have hnc129 := NB1045_1085.out
    have hnb130 := NB1085_1073.out
    have hnc130 := NB1073_1085.out
    obtain ⟨Z131_0, Z131_1, Z131_2, Z131_3, Z131_4, F131_0, F131_1, F131_2, F131_3, F131_4⟩ := cz5 BK1085.out
    have hnb132 := NB1073_1044.out
    have hnc132 := NB1044_1073.out
    have hnb133 := NB1073_1045.out
    have hnc133 := NB1045_1073.out
    obtain ⟨Z134_0, Z134_1, Z134_2, Z134_3, Z134_4, F134_0, F134_1, F134_2, F134_3, F134_4⟩ := cz5 BK1073.out
    go_wp2_with (first | ((with_reducible refine gate_callee (f := 28) rfl ?_); refine gl_ (some 95) Tryz.func28 (by kernel_rfl) #[.agg #[.int .i64 t1080, .int .i64 t1081, .int .i64 t1082, .string t1083, .int .i64 t1084], .agg #[.int .i64 t1068, .int .i64 t1069, .int .i64 t1070, .string t1071, .int .i64 t1072]] rfl ?_; (with_reducible refine (calc_Less.calls k t1080 t1081 t1082 t1083 t1084 t1068 t1069 t1070 t1071 t1072 t1111 t1112 t1113 t1114 t1115 _ ?side1 A126.out).mono ?_); (case side1 => exact tabs_of HT.out (bz HB.out)); rintro e w135 ⟨rfl, hb⟩; refine ⟨_, rfl, ?_⟩; replace BK1044 := am (blk_below (g := gb1044) (o := .cells #[.int .i64 a1_0, .int .i64 a1_1, .int .i64 a1_2, .int .i64 a1_3, .string a1_4, .int .i64 a1_5, .string a1_6, .slice (some ad1067) l1_7.length c1_7] 31 (0, 0)) (bp BK1044.out) hb); replace BK1045 := am (blk_below (g := gb1045) (o := .cells #[.int .i64 0, .int .i64 0, .int .i64 0, .string (⟨#[]⟩ : ByteArray), .int .i64 0] 25 (0, 0)) (bp BK1045.out) hb); replace BK1073 := am (blk_below (g := gb1073) (o := .cells #[.int .i64 t1068, .int .i64 t1069, .int .i64 t1070, .string t1071, .int .i64 t1072] 25 (0, 0)) (bp BK1073.out) hb); replace BK1085 := am (blk_below (g := gb1085) (o := .cells #[.int .i64 t1080, .int .i64 t1081, .int .i64 t1082, .string t1083, .int .i64 t1084] 25 (0, 0)) (bp BK1085.out) hb); replace HB := sb HB hb; clear hb) | ((with_reducible refine gate_callee (f := 80) rfl ?_); refine gl_ (some 96) Tryz.func80 (by kernel_rfl) #[.agg #[.int .i64 t1111, .int .i64 t1112, .int .i64 t1113, .string t1114, .int .i64 t1115]] rfl ?_; (with_reducible refine (logic_Not.calls t1111 t1112 t1113 t1114 t1115 t1116 t1117 t1118 t1119 t1120 _ A127.out).mono ?_); rintro e w136 ⟨rfl, hb⟩; refine ⟨_, rfl, ?_⟩; replace BK1044 := kb BK1044 hb; replace BK1045 := kb BK1045 hb; replace BK1073 := kb BK1073 hb; replace BK1085 := kb BK1085 hb; replace HB := sb HB hb; clear hb; have hnb137 := NB1045_1044.out; have hnc137 := NB1044_1045.out; obtain ⟨Z138_0, Z138_1, Z138_2, Z138_3, Z138_4, F138_0, F138_1, F138_2, F138_3, F138_4⟩ := cz5 BK1045.out))
    refine bodyPost_ret (results_cell_row rfl _ _ gb1045 25 #[.int .i64 t1116, .int .i64 t1117, .int .i64 t1118, .string t1119, .int .i64 t1120] (0, 0) _ rfl (bp BK1045.out) Tryz.underlying25 rfl (by kernel_rfl)) rfl ?_
    exact ⟨az, bz HB.out⟩
   replace H := ine c125 H
   obtain ⟨H, c125b0, c125b1⟩ := H
   by_cases c139 : a1_0 = 13
   ·replace H := ipe c139 H
    obtain ⟨H, c139b0, c139b1⟩ := H
    clear c139
    replace H := obe5 H
    obtain ⟨t1121, t1122, t1123, t1124, t1125, A140, H⟩ := H
    replace H := obe5 H
    obtain ⟨t1126, t1127, t1128, t1129, t1130, A141, H⟩ := H
    simp only [Option.some.injEq, Prod.mk.injEq] at H
    obtain ⟨rfl, rfl, rfl, rfl, rfl⟩ := H
    have hnb142 := NB1073_1044.out
    have hnc142 := NB1044_1073.out
    have hnb143 := NB1073_1045.out
    have hnc143 := NB1045_1073.out
    have hnb144 := NB1073_1085.out
    have hnc144 := NB1085_1073.out
    obtain ⟨Z145_0, Z145_1, Z145_2, Z145_3, Z145_4, F145_0, F145_1, F145_2, F145_3, F145_4⟩ := cz5 BK1073.out
    have hnb146 := NB1085_1044.out
    have hnc146 := NB1044_1085.out
    have hnb147 := NB1085_1045.out
    have hnc147 := NB1045_1085.out
    obtain ⟨Z148_0, Z148_1, Z148_2, Z148_3, Z148_4, F148_0, F148_1, F148_2, F148_3, F148_4⟩ := cz5 BK1085.out
    go_wp2_with (first | ((with_reducible refine gate_callee (f := 28) rfl ?_); refine gl_ (some 101) Tryz.func28 (by kernel_rfl) #[.agg #[.int .i64 t1068, .int .i64 t1069, .int .i64 t1070, .string t1071, .int .i64 t1072], .agg #[.int .i64 t1080, .int .i64 t1081, .int .i64 t1082, .string t1083, .int .i64 t1084]] rfl ?_; (with_reducible refine (calc_Less.calls k t1068 t1069 t1070 t1071 t1072 t1080 t1081 t1082 t1083 t1084 t1121 t1122 t1123 t1124 t1125 _ ?side1 A140.out).mono ?_); (case side1 => exact tabs_of HT.out (bz HB.out)); rintro e w149 ⟨rfl, hb⟩; refine ⟨_, rfl, ?_⟩; replace BK1044 := am (blk_below (g := gb1044) (o := .cells #[.int .i64 a1_0, .int .i64 a1_1, .int .i64 a1_2, .int .i64 a1_3, .string a1_4, .int .i64 a1_5, .string a1_6, .slice (some ad1067) l1_7.length c1_7] 31 (0, 0)) (bp BK1044.out) hb); replace BK1045 := am (blk_below (g := gb1045) (o := .cells #[.int .i64 0, .int .i64 0, .int .i64 0, .string (⟨#[]⟩ : ByteArray), .int .i64 0] 25 (0, 0)) (bp BK1045.out) hb); replace BK1073 := am (blk_below (g := gb1073) (o := .cells #[.int .i64 t1068, .int .i64 t1069, .int .i64 t1070, .string t1071, .int .i64 t1072] 25 (0, 0)) (bp BK1073.out) hb); replace BK1085 := am (blk_below (g := gb1085) (o := .cells #[.int .i64 t1080, .int .i64 t1081, .int .i64 t1082, .string t1083, .int .i64 t1084] 25 (0, 0)) (bp BK1085.out) hb); replace HB := sb HB hb; clear hb) | ((with_reducible refine gate_callee (f := 80) rfl ?_); refine gl_ (some 102) Tryz.func80 (by kernel_rfl) #[.agg #[.int .i64 t1121, .int .i64 t1122, .int .i64 t1123, .string t1124, .int .i64 t1125]] rfl ?_; (with_reducible refine (logic_Not.calls t1121 t1122 t1123 t1124 t1125 t1126 t1127 t1128 t1129 t1130 _ A141.out).mono ?_); rintro e w150 ⟨rfl, hb⟩; refine ⟨_, rfl, ?_⟩; replace BK1044 := kb BK1044 hb; replace BK1045 := kb BK1045 hb; replace BK1073 := kb BK1073 hb; replace BK1085 := kb BK1085 hb; replace HB := sb HB hb; clear hb; have hnb151 := NB1045_1044.out; have hnc151 := NB1044_1045.out; obtain ⟨Z152_0, Z152_1, Z152_2, Z152_3, Z152_4, F152_0, F152_1, F152_2, F152_3, F152_4⟩ := cz5 BK1045.out))
    refine bodyPost_ret (results_cell_row rfl _ _ gb1045 25 #[.int .i64 t1126, .int .i64 t1127, .int .i64 t1128, .string t1129, .int .i64 t1130] (0, 0) _ rfl (bp BK1045.out) Tryz.underlying25 rfl (by kernel_rfl)) rfl ?_
    exact ⟨az, bz HB.out⟩
   replace H := ine c139 H
   obtain ⟨H, c139b0, c139b1⟩ := H
   by_cases c153 : a1_0 = 14
   ·replace H := ipe c153 H
    obtain ⟨H, c153b0, c153b1⟩ := H
    clear c153
    obtain ⟨y1131, hy1131⟩ : ∃ y_ : List (S25), y_ = (([(⟨t1068, (⟨t1069, t1070⟩ : S23), t1071, t1072⟩ : S25), (⟨t1080, (⟨t1081, t1082⟩ : S23), t1083, t1084⟩ : S25)] : List (S25))) := ⟨_, rfl⟩
    replace H : (none) = some (r1, r2, r3, r4, r5) := by first | (rw [hy1131]; with_reducible exact H) | (have H2_ := (Option.bind_some _ _).symm.trans H; rw [hy1131]; with_reducible exact H2_) | (have H2_ := (Option.bind_some _ _).symm.trans H; with_reducible exact H2_) | with_reducible exact H | (rw [hy1131]; exact H) | exact H
    have Ny1131 := am hy1131
    clear hy1131
    exact absurd H (by simp)
   replace H := ine c153 H
   obtain ⟨H, c153b0, c153b1⟩ := H
   by_cases c154 : a1_0 = 15
   ·replace H := ipe c154 H
    obtain ⟨H, c154b0, c154b1⟩ := H
    clear c154
    obtain ⟨y1134, hy1134⟩ : ∃ y_ : List (S25), y_ = (([(⟨t1068, (⟨t1069, t1070⟩ : S23), t1071, t1072⟩ : S25), (⟨t1080, (⟨t1081, t1082⟩ : S23), t1083, t1084⟩ : S25)] : List (S25))) := ⟨_, rfl⟩
    replace H : (none) = some (r1, r2, r3, r4, r5) := by first | (rw [hy1134]; with_reducible exact H) | (have H2_ := (Option.bind_some _ _).symm.trans H; rw [hy1134]; with_reducible exact H2_) | (have H2_ := (Option.bind_some _ _).symm.trans H; with_reducible exact H2_) | with_reducible exact H | (rw [hy1134]; exact H) | exact H
    have Ny1134 := am hy1134
    clear hy1134
    exact absurd H (by simp)
   replace H := ine c154 H
   obtain ⟨H, c154b0, c154b1⟩ := H
   replace H := obe5 H
   obtain ⟨t1137, t1138, t1139, t1140, t1141, A155, H⟩ := H
   simp only [Option.some.injEq, Prod.mk.injEq] at H
   obtain ⟨rfl, rfl, rfl, rfl, rfl⟩ := H
   have hnb156 := NB1044_1045.out
   have hnc156 := NB1045_1044.out
   have hnb157 := NB1044_1073.out
   have hnc157 := NB1073_1044.out
   have hnb158 := NB1044_1085.out
   have hnc158 := NB1085_1044.out
   obtain ⟨Z159_0, Z159_1, Z159_2, Z159_3, Z159_4, Z159_5, Z159_6, Z159_7, F159_0, F159_1, F159_2, F159_3, F159_4, F159_5, F159_6, F159_7⟩ := cz8 BK1044.out
   have hnb160 := NB1073_1045.out
   have hnc160 := NB1045_1073.out
   have hnb161 := NB1073_1085.out
   have hnc161 := NB1085_1073.out
   obtain ⟨Z162_0, Z162_1, Z162_2, Z162_3, Z162_4, F162_0, F162_1, F162_2, F162_3, F162_4⟩ := cz5 BK1073.out
   have hnb163 := NB1085_1045.out
   have hnc163 := NB1045_1085.out
   obtain ⟨Z164_0, Z164_1, Z164_2, Z164_3, Z164_4, F164_0, F164_1, F164_2, F164_3, F164_4⟩ := cz5 BK1085.out
   go_wp2_with (first | ((with_reducible refine gate_callee (f := 79) rfl ?_); refine gl_ (some 119) Tryz.func79 (by kernel_rfl) #[.int .i64 a1_0, .agg #[.int .i64 t1068, .int .i64 t1069, .int .i64 t1070, .string t1071, .int .i64 t1072], .agg #[.int .i64 t1080, .int .i64 t1081, .int .i64 t1082, .string t1083, .int .i64 t1084]] rfl ?_; (with_reducible refine (calc_reckon.calls k a1_0 t1068 t1069 t1070 t1071 t1072 t1080 t1081 t1082 t1083 t1084 t1137 t1138 t1139 t1140 t1141 _ ?side1 A155.out).mono ?_); (case side1 => exact tabs_of HT.out (bz HB.out)); rintro e w165 ⟨rfl, hb⟩; refine ⟨_, rfl, ?_⟩; replace BK1044 := am (blk_below (g := gb1044) (o := .cells #[.int .i64 a1_0, .int .i64 a1_1, .int .i64 a1_2, .int .i64 a1_3, .string a1_4, .int .i64 a1_5, .string a1_6, .slice (some ad1067) l1_7.length c1_7] 31 (0, 0)) (bp BK1044.out) hb); replace BK1045 := am (blk_below (g := gb1045) (o := .cells #[.int .i64 0, .int .i64 0, .int .i64 0, .string (⟨#[]⟩ : ByteArray), .int .i64 0] 25 (0, 0)) (bp BK1045.out) hb); replace BK1073 := am (blk_below (g := gb1073) (o := .cells #[.int .i64 t1068, .int .i64 t1069, .int .i64 t1070, .string t1071, .int .i64 t1072] 25 (0, 0)) (bp BK1073.out) hb); replace BK1085 := am (blk_below (g := gb1085) (o := .cells #[.int .i64 t1080, .int .i64 t1081, .int .i64 t1082, .string t1083, .int .i64 t1084] 25 (0, 0)) (bp BK1085.out) hb); replace HB := sb HB hb; clear hb; obtain ⟨Z166_0, Z166_1, Z166_2, Z166_3, Z166_4, F166_0, F166_1, F166_2, F166_3, F166_4⟩ := cz5 BK1045.out))
   refine bodyPost_ret (results_cell_row rfl _ _ gb1045 25 #[.int .i64 t1137, .int .i64 t1138, .int .i64 t1139, .string t1140, .int .i64 t1141] (0, 0) _ rfl (bp BK1045.out) Tryz.underlying25 rfl (by kernel_rfl)) rfl ?_
   exact ⟨az, bz HB.out⟩
  rw [if_neg c62] at H
  exact absurd H (by simp)
 rw [if_neg c42] at H
 exact absurd H (by simp)
end Go.Proofs.YtgkemhgihbfmmaaGreatDoor.PA
end
section
namespace Go.Proofs.YtgkemhgihbfmmaaGreatDoor.PA
open Go.RowKit Go.Proofs.YtgkemhgihbfmmaaGreatDoorW.PrintWords Go.Proofs.YtgkemhgihbfmmaaGreatDoorW.PrintLast Go.Proofs.YtgkemhgihbfmmaaGreatDoorW.PrintMore
attribute [local go_sem] max2_int min2_int max_two min_two max_three min_three max_four min_four isSome_set str_gtr
set_option linter.unusedVariables false
set_option linter.unusedSimpArgs false
end Go.Proofs.YtgkemhgihbfmmaaGreatDoor.PA
end
section
namespace Go.Proofs.YtgkemhgihbfmmaaGreatDoor.PA
open Go.RowKit Go.Sort Go.Lib Go.Proofs.YtgkemhgihbfmmaaGreatDoorW.PrintWords Go.Proofs.YtgkemhgihbfmmaaGreatDoorW.PrintLast Go.Proofs.YtgkemhgihbfmmaaGreatDoorW.PrintMore
def sortNames (r : List ByteArray) : List (List UInt8) := Lib.compact ((r.map (·.data.toList)).mergeSort fun x y => decide (x ≤ y))
def expr_Names.f (k : Nat) (a0 a1 a2 a3 : Int) (a4 : ByteArray) (a5 : Int) (a6 : ByteArray) (l7 : List S31) : Option (List ByteArray) :=
  (expr_Sound.f k a0 a1 a2 a3 a4 a5 a6 l7).bind fun ok => if ok = true then (expr_names.f k a0 a1 a2 a3 a4 a5 a6 l7).bind fun r => if r.length < 4611686018427387904 then some ((sortNames r).map fun b => ⟨b.toArray⟩) else none else some []
theorem expr_Names.mono : ∀ a0 a1 a2 a3 a4 a5 a6 a7 k, LeO (expr_Names.f k a0 a1 a2 a3 a4 a5 a6 a7) (expr_Names.f (k + 1) a0 a1 a2 a3 a4 a5 a6 a7) := fun a0 a1 a2 a3 a4 a5 a6 a7 k =>
  LeO.bind (expr_Sound.mono _ _ _ _ _ _ _ _ k) fun _ => LeO.ite (LeO.bind (expr_names.mono _ _ _ _ _ _ _ _ k) fun _ => LeO.refl _) (LeO.refl _)
theorem below_grow {B : Nat} {w0 W : World} (h : Below B w0 W) (os : Array Obj) (hB : B ≤ W.heap.size) : Below B w0 (Sort.grow W os) :=
  ⟨h.os, h.tape, h.output, by show w0.heap.size ≤ (W.heap ++ os).size; rw [Array.size_append]; have := h.size; omega, fun k hk => (Sort.heap_grow_old W os (Nat.lt_of_lt_of_le hk hB)).trans (h.block k hk)⟩
theorem compact_le (zs : List (List UInt8)) : (Lib.compact zs).length ≤ zs.length := by
  unfold Lib.compact Lib.compactUpTo
  rw [List.length_map]
  exact Nat.le_trans (List.length_filter_le _ _) (by rw [List.length_range]; exact Nat.le_refl _)
theorem row_at (xs : List (List UInt8)) (k j : Nat) (hj : j < xs.length) : (xs ++ List.replicate k ([] : List UInt8)).toArray[j]! = xs[j] := by
  have h1 : j < (xs ++ List.replicate k ([] : List UInt8)).toArray.size := by simp; omega
  rw [getElem!_pos _ j h1, List.getElem_toArray, List.getElem_append_left hj]
set_option maxHeartbeats 4000000 in
set_option maxRecDepth 100000 in
theorem clip_calls (A : Option Addr) (n c : Nat) (w : World) (hc : n ≤ c) : Calls Tryz.prog 74 #[.slice A n c] w fun e w' => e = .returned (.slice A n n) ∧ w' = w := by
  have i1 : ((0 : Int) ≤ (n : Int)) = True := eq_true (by omega)
  have i2 : ((n : Int) ≤ (c : Int)) = True := eq_true (by omega)
  have i3 : (n ≤ c) = True := eq_true hc
  go_enter Tryz.func74, Tryz.ntmps74
  go_wp2
  go_ret
  exact ⟨rfl, rfl⟩
set_option maxHeartbeats 4000000 in
set_option maxRecDepth 100000 in
theorem expr_Names.calls (k : Nat) (a0_0 a0_1 a0_2 a0_3 : Int) (a0_4 : ByteArray) (a0_5 : Int) (a0_6 : ByteArray) (A0_7 : Option Addr) (c0_7 : Nat) (l0_7 : List S31) (r : List ByteArray) (w : World) (hr0_7 : Kd.C k31 w A0_7 l0_7.length l0_7) (hc0_7 : l0_7.length ≤ c0_7) (hT : Tabs w)
    (h : expr_Names.f k a0_0 a0_1 a0_2 a0_3 a0_4 a0_5 a0_6 l0_7 = some r) :
    Calls Tryz.prog 39 #[.agg #[.int .i64 a0_0, .int .i64 a0_1, .int .i64 a0_2, .int .i64 a0_3, .string a0_4, .int .i64 a0_5, .string a0_6, .slice A0_7 l0_7.length c0_7]] w fun e w' => ∃ A c, e = .returned (.slice A r.length c) ∧ Kd.C Kd.string w' A r.length r ∧ Below w.heap.size w w' := by
  obtain ⟨ok, hs, h⟩ := Option.bind_eq_some_iff.mp h
  have cS := fun (W : World) (hb : Below w.heap.size w W) => expr_Sound.calls k a0_0 a0_1 a0_2 a0_3 a0_4 a0_5 a0_6 A0_7 c0_7 l0_7 ok W (Kd.C_below hr0_7 hb) hc0_7 (tabs_of hT hb) hs
  have hu31 := Tryz.underlying31
  cases ok with
  | false =>
    simp only [Bool.false_eq_true, if_false, Option.some.injEq] at h
    subst h
    clear hr0_7 hc0_7 hT hs
    go_enter Tryz.func39, Tryz.ntmps39
    go_wp2_with (first
      | ((with_reducible refine gate_dst (N := 1) rfl ?_); refine bev (#[.int .i64 a0_0, .int .i64 a0_1, .int .i64 a0_2, .int .i64 a0_3, .string a0_4, .int .i64 a0_5, .string a0_6, .slice A0_7 l0_7.length c0_7]) 31 ?_; intro gb hgb w1 hbox hb1
         have HB1 := Aside0.mk hb1; obtain ⟨x0, x1, x2, x3, x4, x5, x6, x7, _⟩ := cz8 hbox; clear hgb hbox hb1)
      | (go_at_call 35; refine (cS _ HB1.out).mono ?_; rintro e w2 ⟨rfl, hb2⟩))
    go_ret
    exact ⟨_, _, rfl, Kd.C_of_reads (d := ByteArray.empty) ⟨rfl, by simp, fun h => absurd h (by simp)⟩, HB1.out.trans (hb2.mono HB1.out.size)⟩
  | true =>
    simp only [if_true] at h
    obtain ⟨t, hn, h⟩ := Option.bind_eq_some_iff.mp h
    split at h
    rotate_left
    · cases h
    rename_i hbig
    obtain rfl := Option.some.inj h
    have cN := fun (W : World) (hb : Below w.heap.size w W) => expr_names.calls k a0_0 a0_1 a0_2 a0_3 a0_4 a0_5 a0_6 A0_7 c0_7 l0_7 t W (Kd.C_below hr0_7 hb) hc0_7 hn
    clear hr0_7 hc0_7 hT hs hn h
    by_cases ht : t = []
    · subst ht
      have hr0 : ((sortNames []).map fun b => (⟨b.toArray⟩ : ByteArray)) = [] := by simp [sortNames, Lib.compact, Lib.compactUpTo]
      rw [hr0]
      go_enter Tryz.func39, Tryz.ntmps39
      go_wp2_with (first
        | ((with_reducible refine gate_dst (N := 1) rfl ?_); refine bev (#[.int .i64 a0_0, .int .i64 a0_1, .int .i64 a0_2, .int .i64 a0_3, .string a0_4, .int .i64 a0_5, .string a0_6, .slice A0_7 l0_7.length c0_7]) 31 ?_; intro gb hgb w1 hbox hb1
           have HB := Aside0.mk hb1; have HX := Aside0.mk hbox; obtain ⟨x0, x1, x2, x3, x4, x5, x6, x7, _⟩ := cz8 hbox; clear hgb hbox hb1)
        | (go_at_call 35; refine (cS _ HB.out).mono ?_; rintro e w2 ⟨rfl, hb2⟩; replace HX := Aside0.mk (blk_below HX.out hb2); replace HB := Aside0.mk (HB.out.trans (hb2.mono HB.out.size)); obtain ⟨x0, x1, x2, x3, x4, x5, x6, x7, _⟩ := cz8 HX.out; clear hb2)
        | (go_at_call 72; refine (cN _ HB.out).mono ?_; rintro e w3 ⟨v, rfl, hR, hb3⟩; obtain ⟨A, c, rfl⟩ := Kd.R_slice hR; replace HB := Aside0.mk (HB.out.trans (hb3.mono HB.out.size)); clear hR hb3)
        | (go_at_call 73; refine (Tryz.slices_Sort_string_none A c _).mono ?_; rintro e w4 ⟨rfl, rfl⟩)
        | (go_at_call 75; refine (Tryz.slices_Compact_string_empty A c _).mono ?_; rintro e w4 ⟨rfl, rfl⟩)
        | (go_at_call 74; refine (clip_calls A 0 c _ (Nat.zero_le _)).mono ?_; rintro e w4 ⟨rfl, rfl⟩))
      go_ret
      exact ⟨_, _, rfl, Kd.C_of_reads (d := ByteArray.empty) ⟨rfl, by simp, fun h => absurd h (by simp)⟩, HB.out⟩
    · obtain ⟨z, hz⟩ : ∃ z, t.map (·.data.toList) = z := ⟨_, rfl⟩
      obtain ⟨ss, hss⟩ : ∃ ss, (z.mergeSort fun x y => decide (x ≤ y)) = ss := ⟨_, rfl⟩
      have hlz : z.length = t.length := by rw [← hz, List.length_map]
      have hls : ss.length = t.length := by rw [← hss, List.length_mergeSort, hlz]
      have hsn : sortNames t = Lib.compact ss := by unfold sortNames; rw [hz, hss]
      have hcl : (Lib.compact ss).length ≤ t.length := by rw [← hls]; exact compact_le ss
      rw [hsn]
      have hpos : 0 < t.length := List.length_pos_iff.2 ht
      have cSort := fun (g cap : Nat) (W : World) (hH : Holds encStr W g 0 z.toArray) (hg : g < W.heap.size) => Tryz.slices_Sort_string g 0 cap z W hH hg (by omega)
      have cComp := fun (g cap : Nat) (W : World) (hH : Holds encStr W g 0 ss.toArray) (hcap : t.length ≤ cap) => Tryz.slices_Compact_string g 0 cap ss W hH (by omega) (by omega)
      simp only [hlz, hss] at cSort
      simp only [hls] at cComp
      go_enter Tryz.func39, Tryz.ntmps39
      go_wp2_with (first
        | ((with_reducible refine gate_dst (N := 1) rfl ?_); refine bev (#[.int .i64 a0_0, .int .i64 a0_1, .int .i64 a0_2, .int .i64 a0_3, .string a0_4, .int .i64 a0_5, .string a0_6, .slice A0_7 l0_7.length c0_7]) 31 ?_; intro gb hgb w1 hbox hb1
           have HB := Aside0.mk hb1; have HX := Aside0.mk hbox; obtain ⟨x0, x1, x2, x3, x4, x5, x6, x7, _⟩ := cz8 hbox; clear hgb hbox hb1)
        | (go_at_call 35; refine (cS _ HB.out).mono ?_; rintro e w2 ⟨rfl, hb2⟩; replace HX := Aside0.mk (blk_below HX.out hb2); replace HB := Aside0.mk (HB.out.trans (hb2.mono HB.out.size)); obtain ⟨x0, x1, x2, x3, x4, x5, x6, x7, _⟩ := cz8 HX.out; clear hb2)
        | (go_at_call 72; refine (cN _ HB.out).mono ?_; rintro e w3 ⟨v, rfl, hR, hb3⟩
           have hown := Kd.own_of_R hR
           rw [show encs Value.string t = z.map encStr from by rw [← hz, Lib.map_encStr]; rfl] at hown
           obtain ⟨A, c, hv⟩ := Kd.R_slice hR
           have hnn : v ≠ .slice none 0 0 := fun e => by rw [hv] at e; injection e with _ e2 _; omega
           obtain ⟨g, cap, rfl, hbg, hgl, hnc, _, _, hH⟩ := Lib.holds_of_ownsRow hown hnn
           have HG := Aside0.mk (Nat.le_trans HB.out.size hbg); replace HB := Aside0.mk (HB.out.trans (hb3.mono HB.out.size)); have HH := Aside0.mk hH; have HL := Aside0.mk hgl; have HN := Aside0.mk hnc; clear hR hb3 hown hv hnn hbg hgl hnc hH HX)
        | (go_at_call 73; refine (cSort g cap _ HH.out HL.out).mono ?_; rintro e w4 ⟨rfl, n, os, hw4⟩
           have HH4 := Aside0.mk (show Holds encStr w4 g 0 ss.toArray from by rw [hw4]; exact Sort.holds_grow encStr _ os g 0 _ (by rw [Sort.size_putRow]; exact HL.out) (Sort.holds_putRow encStr _ g 0 z.toArray ss.toArray (Sort.holds_ahead encStr _ n g 0 _ HH.out) (by simp [hlz, hls])))
           have HB4 := Aside0.mk (show Below w.heap.size w w4 from by rw [hw4]; exact below_grow (Lib.below_putRow HB.out HG.out) os (by rw [Sort.size_putRow]; exact HB.out.size))
           clear hw4)
        | (go_at_call 75; refine (cComp g cap _ HH4.out HN.out).mono ?_; rintro e w5 ⟨rfl, q, hw5⟩
           have HB5 := Aside0.mk (show Below w.heap.size w w5 from by rw [hw5]; exact Lib.below_putRow HB4.out HG.out)
           have HC5 := Aside0.mk (show ∀ j (hj : j < (Lib.compact ss).length), w5.cell? ⟨g, j, none⟩ = some (encStr (Lib.compact ss)[j]) from fun j hj => by
             have hc := Sort.cell?_putRow encStr (Sort.ahead w4 q) g 0 ss.toArray (Lib.compact ss ++ List.replicate (t.length - (Lib.compact ss).length) []).toArray (Sort.holds_ahead encStr _ q g 0 _ HH4.out) (by simp [hls]; omega) j (by simp; omega)
             rw [← hw5, Nat.zero_add] at hc
             rw [hc, row_at _ _ j hj])
           clear hw5)
        | (go_at_call 74; refine (clip_calls (some ⟨g, 0, none⟩) (Lib.compact ss).length cap _ (Nat.le_trans hcl HN.out)).mono ?_; rintro e w6 ⟨rfl, rfl⟩))
      go_ret
      refine ⟨some ⟨g, 0, none⟩, (Lib.compact ss).length, by rw [List.length_map]; rfl, Kd.C_of_reads (d := ByteArray.empty) ⟨rfl, by rw [List.length_map]; omega, fun _ => ⟨⟨g, 0, none⟩, rfl, fun j hj => ?_⟩⟩, HB5.out⟩
      rw [List.length_map] at hj
      have hc := HC5.out j hj
      rw [Addr.add_lit, Nat.zero_add, hc]
      simp [encStr, List.getD_eq_getElem?_getD, List.getElem?_map, List.getElem?_eq_getElem hj]
end Go.Proofs.YtgkemhgihbfmmaaGreatDoor.PA
end
section
namespace Go.Proofs.YtgkemhgihbfmmaaGreatDoor.PA
open Go.RowKit Go.Proofs.YtgkemhgihbfmmaaGreatDoorW.PrintWords Go.Proofs.YtgkemhgihbfmmaaGreatDoorW.PrintLast Go.Proofs.YtgkemhgihbfmmaaGreatDoorW.PrintMore
attribute [local go_sem] isSome_set
def allHave (l : List S27) : List ByteArray → Option Bool
  | [] => some true
  | n :: t => (fnd (fun y => some (y.f0.toList == n.toList)) l 0).bind fun r => if 0 ≤ r then allHave l t else some false
def unsound27 (k : Nat) (y : S27) : Option Bool := (value_Sound.f k y.f1.f0 y.f1.f1.f0 y.f1.f1.f1 y.f1.f2 y.f1.f3).bind fun ok => some (!ok)
def calc_Eval.f (k : Nat) (a0 a1 a2 a3 : Int) (a4 : ByteArray) (a5 : Int) (a6 : ByteArray) (l7 : List S31) (l1 : List S27) : Option (Int × Int × Int × ByteArray × Int × Int) :=
  (expr_Sound.f k a0 a1 a2 a3 a4 a5 a6 l7).bind fun ok => if ok = true then
    if l1.length < 4611686018427387904 then (fnd (unsound27 k) l1 0).bind fun r => if 0 ≤ r then some (0, 0, 0, ⟨#[]⟩, 0, 2) else
      (expr_Names.f k a0 a1 a2 a3 a4 a5 a6 l7).bind fun ns => (allHave l1 ns).bind fun all => if all = true then (calc_scope_eval.f k l1 a0 a1 a2 a3 a4 a5 a6 l7).bind fun v => some (v.1, v.2.1, v.2.2.1, v.2.2.2.1, v.2.2.2.2, 0) else some (0, 0, 0, ⟨#[]⟩, 0, 7)
    else none
  else some (0, 0, 0, ⟨#[]⟩, 0, 2)
theorem fnd_mono {p q : S27 → Option Bool} (h : ∀ y, LeO (p y) (q y)) : ∀ (l : List S27) (i : Nat), LeO (fnd p l i) (fnd q l i)
  | [], _ => LeO.refl _
  | y :: t, i => LeO.bind (h y) fun _ => LeO.ite (LeO.refl _) (fnd_mono h t (i + 1))
theorem calc_Eval.mono : ∀ a0 a1 a2 a3 a4 a5 a6 a7 a8 k, LeO (calc_Eval.f k a0 a1 a2 a3 a4 a5 a6 a7 a8) (calc_Eval.f (k + 1) a0 a1 a2 a3 a4 a5 a6 a7 a8) := fun a0 a1 a2 a3 a4 a5 a6 a7 a8 k =>
  LeO.bind (expr_Sound.mono _ _ _ _ _ _ _ _ k) fun _ => LeO.ite (LeO.ite (LeO.bind (fnd_mono (fun y => LeO.bind (value_Sound.mono _ _ _ _ _ k) fun _ => LeO.refl _) a8 0) fun _ => LeO.ite (LeO.refl _)
    (LeO.bind (expr_Names.mono _ _ _ _ _ _ _ _ k) fun _ => LeO.bind (LeO.refl _) fun _ => LeO.ite (LeO.bind (calc_scope_eval.mono _ _ _ _ _ _ _ _ _ k) fun _ => LeO.refl _) (LeO.refl _))) (LeO.none _)) (LeO.refl _)
theorem drop_str {l : List ByteArray} {i : Nat} (h : i < l.length) : l.drop i = rdOf ByteArray.empty l (i : Int) :: l.drop (i + 1) := by
  rw [List.drop_eq_getElem_cons h]
  congr 1
  show _ = l.getD (Int.toNat (i : Int)) ByteArray.empty
  rw [Int.toNat_natCast, List.getD_eq_getElem?_getD, List.getElem?_eq_getElem h, Option.getD_some]
theorem names_len {k : Nat} {a0 a1 a2 a3 : Int} {a4 : ByteArray} {a5 : Int} {a6 : ByteArray} {l7 : List S31} {ns : List ByteArray} (h : expr_Names.f k a0 a1 a2 a3 a4 a5 a6 l7 = some ns) : ns.length < 4611686018427387904 := by
  obtain ⟨ok, -, h⟩ := Option.bind_eq_some_iff.mp h
  split at h
  · obtain ⟨r, -, h⟩ := Option.bind_eq_some_iff.mp h
    split at h
    · rename_i hr
      obtain rfl := Option.some.inj h
      rw [List.length_map]
      refine Nat.lt_of_le_of_lt (compact_le _) ?_
      rwa [List.length_mergeSort, List.length_map]
    · cases h
  · obtain rfl := Option.some.inj h
    exact Nat.zero_lt_succ _
theorem below5 {n : Nat} {w0 w : World} {g : Nat} (h : Below n w0 w) (hg : n ≤ g) (a b c d e : Value) : Below n w0 (((((w.setCell ⟨g, 0, none⟩ a).setCell ⟨g, 1, none⟩ b).setCell ⟨g, 2, none⟩ c).setCell ⟨g, 3, none⟩ d).setCell ⟨g, 4, none⟩ e) :=
  ((((h.setCell (p := ⟨g, 0, none⟩) hg a).setCell (p := ⟨g, 1, none⟩) hg b).setCell (p := ⟨g, 2, none⟩) hg c).setCell (p := ⟨g, 3, none⟩) hg d).setCell (p := ⟨g, 4, none⟩) hg e
set_option maxHeartbeats 4000000 in
set_option maxRecDepth 100000 in
theorem calc_Eval.calls (k : Nat) (a0_0 a0_1 a0_2 a0_3 : Int) (a0_4 : ByteArray) (a0_5 : Int) (a0_6 : ByteArray) (A0_7 : Option Addr) (c0_7 : Nat) (l0_7 : List S31) (A1 : Option Addr) (c1 : Nat) (l1 : List S27) (r1 r2 r3 : Int) (r4 : ByteArray) (r5 r6 : Int) (w : World) (hr0_7 : Kd.C k31 w A0_7 l0_7.length l0_7) (hc0_7 : l0_7.length ≤ c0_7) (hr1 : Kd.C k27 w A1 l1.length l1) (hc1 : l1.length ≤ c1) (hT : Tabs w)
    (h : calc_Eval.f k a0_0 a0_1 a0_2 a0_3 a0_4 a0_5 a0_6 l0_7 l1 = some (r1, r2, r3, r4, r5, r6)) :
    Calls Tryz.prog 13 #[.agg #[.int .i64 a0_0, .int .i64 a0_1, .int .i64 a0_2, .int .i64 a0_3, .string a0_4, .int .i64 a0_5, .string a0_6, .slice A0_7 l0_7.length c0_7], .slice A1 l1.length c1] w fun e w' => e = .returned (.tuple #[.agg #[.int .i64 r1, .int .i64 r2, .int .i64 r3, .string r4, .int .i64 r5], .int .i64 r6]) ∧ Below w.heap.size w w' := by
  obtain ⟨ok, hs, h⟩ := Option.bind_eq_some_iff.mp h
  have cS := fun (W : World) (hb : Below w.heap.size w W) => expr_Sound.calls k a0_0 a0_1 a0_2 a0_3 a0_4 a0_5 a0_6 A0_7 c0_7 l0_7 ok W (Kd.C_below hr0_7 hb) hc0_7 (tabs_of hT hb) hs
  have hu31 := Tryz.underlying31
  have hu25 := Tryz.underlying25
  have HZ := Aside0.mk hT.null.pos
  have HTw := Aside0.mk hT
  cases ok with
  | false =>
    simp only [Bool.false_eq_true, if_false, Option.some.injEq, Prod.mk.injEq] at h
    obtain ⟨rfl, rfl, rfl, rfl, rfl, rfl⟩ := h
    clear hr0_7 hc0_7 hr1 hc1 hT hs
    go_enter Tryz.func13, Tryz.ntmps13
    go_wp2_with (first
      | ((with_reducible refine gate_dst (N := 2) rfl ?_); refine bev (#[.int .i64 a0_0, .int .i64 a0_1, .int .i64 a0_2, .int .i64 a0_3, .string a0_4, .int .i64 a0_5, .string a0_6, .slice A0_7 l0_7.length c0_7]) 31 ?_; intro gx hgx w1 hbox hb1
         have HB := Aside0.mk hb1; have HX := Aside0.mk hbox; have HGX := Aside0.mk (show w.heap.size ≤ gx from by rw [hgx]; exact Nat.le_refl _); clear hgx hbox hb1)
      | ((with_reducible refine gate_dst (N := 4) rfl ?_); refine bev (#[.int .i64 0, .int .i64 0, .int .i64 0, .string (⟨#[]⟩ : ByteArray), .int .i64 0]) 25 ?_; intro g4 hg4 w2 hbox hb1
         have H4 := Aside0.mk hbox; have HG4 := Aside0.mk (show w.heap.size ≤ g4 from by rw [hg4]; exact HB.out.size); replace HX := Aside0.mk (blk_below HX.out hb1); replace HB := Aside0.mk (HB.out.trans (hb1.mono HB.out.size)); obtain ⟨x0, x1, x2, x3, x4, x5, x6, x7, _⟩ := cz8 HX.out; clear hg4 hbox hb1)
      | (go_at_call 35; refine (cS _ HB.out).mono ?_; rintro e w3 ⟨rfl, hb3⟩; replace H4 := Aside0.mk (blk_below H4.out hb3); replace HB := Aside0.mk (HB.out.trans (hb3.mono HB.out.size)); obtain ⟨q0, q1, q2, q3, q4, f0, f1, f2, f3, f4⟩ := cz5 H4.out
         obtain ⟨n0, n1, n2, n3, n4⟩ := nullHere HTw.out HB.out; have hz4 := ne0 HZ.out HG4.out; clear hb3))
    refine bodyPost_ret (results_ct rfl _ _ g4 25 #[.int .i64 0, .int .i64 0, .int .i64 0, .string (⟨#[]⟩ : ByteArray), .int .i64 0] (0, 0) _ rfl (put5 H4.out) Tryz.underlying25 rfl (by kernel_rfl)) rfl ?_
    exact ⟨rfl, below5 HB.out HG4.out _ _ _ _ _⟩
  | true =>
    simp only [if_true] at h
    split at h
    rotate_left
    · cases h
    rename_i hbig
    obtain ⟨r, hr, h⟩ := Option.bind_eq_some_iff.mp h
    by_cases h0 : 0 ≤ r
    · rw [if_pos h0] at h
      simp only [Option.some.injEq, Prod.mk.injEq] at h
      obtain ⟨rfl, rfl, rfl, rfl, rfl, rfl⟩ := h
      have d0 : decide (0 ≤ r) = true := decide_eq_true h0
      go_enter Tryz.func13, Tryz.ntmps13
      go_wp2_with (first
        | ((with_reducible refine gate_dst (N := 2) rfl ?_); refine bev (#[.int .i64 a0_0, .int .i64 a0_1, .int .i64 a0_2, .int .i64 a0_3, .string a0_4, .int .i64 a0_5, .string a0_6, .slice A0_7 l0_7.length c0_7]) 31 ?_; intro gx hgx w1 hbox hb1; have HB := Aside0.mk hb1; have HX := Aside0.mk hbox; have HGX := Aside0.mk (show w.heap.size ≤ gx from by rw [hgx]; exact Nat.le_refl _); clear hgx hbox hb1)
        | ((with_reducible refine gate_dst (N := 4) rfl ?_); refine bev (#[.int .i64 0, .int .i64 0, .int .i64 0, .string (⟨#[]⟩ : ByteArray), .int .i64 0]) 25 ?_; intro g4 hg4 w2 hbox hb1; have H4 := Aside0.mk hbox; have HG4 := Aside0.mk (show w.heap.size ≤ g4 from by rw [hg4]; exact HB.out.size); replace HX := Aside0.mk (blk_below HX.out hb1); replace HB := Aside0.mk (HB.out.trans (hb1.mono HB.out.size)); obtain ⟨x0, x1, x2, x3, x4, x5, x6, x7, _⟩ := cz8 HX.out; clear hg4 hbox hb1)
        | (go_at_call 35; refine (cS _ HB.out).mono ?_; rintro e w3 ⟨rfl, hb3⟩; replace H4 := Aside0.mk (blk_below H4.out hb3); replace HX := Aside0.mk (blk_below HX.out hb3); replace HB := Aside0.mk (HB.out.trans (hb3.mono HB.out.size)); obtain ⟨x0, x1, x2, x3, x4, x5, x6, x7, _⟩ := cz8 HX.out; obtain ⟨q0, q1, q2, q3, q4, f0, f1, f2, f3, f4⟩ := cz5 H4.out; obtain ⟨n0, n1, n2, n3, n4⟩ := nullHere HTw.out HB.out; have hz4 := ne0 HZ.out HG4.out; clear hb3)
        | (go_at_call 36; refine (has27 37 #[] (unsound27 k) (enters_of Tryz.func37 (by kernel_rfl) rfl) l1 A1 c1 r _ (Kd.C_below hr1 HB.out) (gives37 k _ (tabs_of hT HB.out)) hbig hr).mono ?_; rintro e w3 ⟨rfl, hb3⟩; replace H4 := Aside0.mk (blk_below H4.out hb3); replace HX := Aside0.mk (blk_below HX.out hb3); replace HB := Aside0.mk (HB.out.trans (hb3.mono HB.out.size)); obtain ⟨x0, x1, x2, x3, x4, x5, x6, x7, _⟩ := cz8 HX.out; obtain ⟨q0, q1, q2, q3, q4, f0, f1, f2, f3, f4⟩ := cz5 H4.out; obtain ⟨n0, n1, n2, n3, n4⟩ := nullHere HTw.out HB.out; have hz4 := ne0 HZ.out HG4.out; clear hb3))
      refine bodyPost_ret (results_ct rfl _ _ g4 25 #[.int .i64 0, .int .i64 0, .int .i64 0, .string (⟨#[]⟩ : ByteArray), .int .i64 0] (0, 0) _ rfl (put5 H4.out) Tryz.underlying25 rfl (by kernel_rfl)) rfl ?_
      exact ⟨rfl, below5 HB.out HG4.out _ _ _ _ _⟩
    rw [if_neg h0] at h
    have d0 : decide (0 ≤ r) = false := decide_eq_false h0
    obtain ⟨ns, hn, h⟩ := Option.bind_eq_some_iff.mp h
    have hnl := names_len hn
    obtain ⟨all, hall, h⟩ := Option.bind_eq_some_iff.mp h
    have HA0 : Aside0 (allHave l1 (ns.drop 0) = some all) := ⟨hall⟩
    have HH := Aside0.mk h
    clear hall h
    go_enter Tryz.func13, Tryz.ntmps13
    go_wp2_with (first
      | ((with_reducible refine gate_dst (N := 2) rfl ?_); refine bev (#[.int .i64 a0_0, .int .i64 a0_1, .int .i64 a0_2, .int .i64 a0_3, .string a0_4, .int .i64 a0_5, .string a0_6, .slice A0_7 l0_7.length c0_7]) 31 ?_; intro gx hgx w1 hbox hb1; have HB := Aside0.mk hb1; have HX := Aside0.mk hbox; have HGX := Aside0.mk (show w.heap.size ≤ gx from by rw [hgx]; exact Nat.le_refl _); clear hgx hbox hb1)
      | ((with_reducible refine gate_dst (N := 4) rfl ?_); refine bev (#[.int .i64 0, .int .i64 0, .int .i64 0, .string (⟨#[]⟩ : ByteArray), .int .i64 0]) 25 ?_; intro g4 hg4 w2 hbox hb1; have H4 := Aside0.mk hbox; have HG4 := Aside0.mk (show w.heap.size ≤ g4 from by rw [hg4]; exact HB.out.size); replace HX := Aside0.mk (blk_below HX.out hb1); replace HB := Aside0.mk (HB.out.trans (hb1.mono HB.out.size)); obtain ⟨x0, x1, x2, x3, x4, x5, x6, x7, _⟩ := cz8 HX.out; clear hg4 hbox hb1)
      | (go_at_call 35; refine (cS _ HB.out).mono ?_; rintro e w3 ⟨rfl, hb3⟩; replace H4 := Aside0.mk (blk_below H4.out hb3); replace HX := Aside0.mk (blk_below HX.out hb3); replace HB := Aside0.mk (HB.out.trans (hb3.mono HB.out.size)); obtain ⟨x0, x1, x2, x3, x4, x5, x6, x7, _⟩ := cz8 HX.out; obtain ⟨q0, q1, q2, q3, q4, f0, f1, f2, f3, f4⟩ := cz5 H4.out; obtain ⟨n0, n1, n2, n3, n4⟩ := nullHere HTw.out HB.out; have hz4 := ne0 HZ.out HG4.out; clear hb3)
      | (go_at_call 36; refine (has27 37 #[] (unsound27 k) (enters_of Tryz.func37 (by kernel_rfl) rfl) l1 A1 c1 r _ (Kd.C_below hr1 HB.out) (gives37 k _ (tabs_of hT HB.out)) hbig hr).mono ?_; rintro e w3 ⟨rfl, hb3⟩; replace H4 := Aside0.mk (blk_below H4.out hb3); replace HX := Aside0.mk (blk_below HX.out hb3); replace HB := Aside0.mk (HB.out.trans (hb3.mono HB.out.size)); obtain ⟨x0, x1, x2, x3, x4, x5, x6, x7, _⟩ := cz8 HX.out; obtain ⟨q0, q1, q2, q3, q4, f0, f1, f2, f3, f4⟩ := cz5 H4.out; obtain ⟨n0, n1, n2, n3, n4⟩ := nullHere HTw.out HB.out; have hz4 := ne0 HZ.out HG4.out; clear hb3)
      | (go_at_call 39; refine (expr_Names.calls k a0_0 a0_1 a0_2 a0_3 a0_4 a0_5 a0_6 A0_7 c0_7 l0_7 ns _ (Kd.C_below hr0_7 HB.out) hc0_7 (tabs_of hT HB.out) hn).mono ?_; rintro e w3 ⟨An, cn, rfl, hCn, hb3⟩; have HCn := Aside0.mk hCn; clear hCn; replace H4 := Aside0.mk (blk_below H4.out hb3); replace HX := Aside0.mk (blk_below HX.out hb3); replace HB := Aside0.mk (HB.out.trans (hb3.mono HB.out.size)); obtain ⟨x0, x1, x2, x3, x4, x5, x6, x7, _⟩ := cz8 HX.out; obtain ⟨q0, q1, q2, q3, q4, f0, f1, f2, f3, f4⟩ := cz5 H4.out; obtain ⟨n0, n1, n2, n3, n4⟩ := nullHere HTw.out HB.out; have hz4 := ne0 HZ.out HG4.out; clear hb3))
    clear cS hs hr hn x0 x1 x2 x3 x4 x5 x6 x7 q0 q1 q2 q3 q4 f0 f1 f2 f3 f4 n0 n1 n2 n3 n4
    go_loopg [19] ns.length (fun gg s19 wr => ∃ kk : Nat, kk + gg = ns.length ∧ s19 = .int .i64 kk ∧ Aside0 (allHave l1 (ns.drop kk) = some all) ∧ Aside0 (Below w3.heap.size w3 wr))
    case atStart => exact ⟨0, Nat.zero_add _, rfl, HA0, ⟨Below.refl _ _⟩⟩
    case round =>
      obtain ⟨kk, hkg, rfl, HA, HW⟩ := hrel
      have HB1 := Aside0.mk (HB.out.trans (HW.out.mono HB.out.size))
      have H41 := Aside0.mk (blk_below H4.out HW.out)
      have HX1 := Aside0.mk (blk_below HX.out HW.out)
      obtain ⟨x0, x1, x2, x3, x4, x5, x6, x7, _⟩ := cz8 HX1.out
      obtain ⟨q0, q1, q2, q3, q4, f0, f1, f2, f3, f4⟩ := cz5 H41.out
      obtain ⟨n0, n1, n2, n3, n4⟩ := nullHere HTw.out HB1.out
      cases gk with
      | zero =>
        have d1 : decide ((kk : Int) < (ns.length : Int)) = false := decide_eq_false (by omega)
        have hA := HA.out
        rw [List.drop_eq_nil_of_le (by omega)] at hA
        obtain rfl := Option.some.inj hA
        have hh := HH.out
        simp only [if_true] at hh
        obtain ⟨⟨v1, v2, v3, v4, v5⟩, hv, hh⟩ := Option.bind_eq_some_iff.mp hh
        simp only [Option.some.injEq, Prod.mk.injEq] at hh
        obtain ⟨rfl, rfl, rfl, rfl, rfl, rfl⟩ := hh
        have cE := calc_scope_eval.calls k A1 c1 l1 a0_0 a0_1 a0_2 a0_3 a0_4 a0_5 a0_6 A0_7 c0_7 l0_7 v1 v2 v3 v4 v5 wr (Kd.C_below hr1 HB1.out) hc1 (Kd.C_below hr0_7 HB1.out) hc0_7 (tabs_of hT HB1.out) hv
        clear hv hr1 hr0_7 hT
        go_wp2_with (go_at_call 41; refine cE.mono ?_; rintro e w9 ⟨rfl, hb9⟩; have H49 := Aside0.mk (blk_below H41.out hb9); have HB9 := Aside0.mk (HB1.out.trans (hb9.mono HB1.out.size)); obtain ⟨p0, p1, p2, p3, p4, g0, g1, g2, g3, g5⟩ := cz5 H49.out; clear hb9)
        refine bodyPost_ret (results_ct rfl _ _ g4 25 #[.int .i64 v1, .int .i64 v2, .int .i64 v3, .string v4, .int .i64 v5] (0, 0) _ rfl (put5 H49.out) Tryz.underlying25 rfl (by kernel_rfl)) rfl ?_
        exact ⟨rfl, below5 HB9.out HG4.out _ _ _ _ _⟩
      | succ n =>
        have d1 : decide ((kk : Int) < (ns.length : Int)) = true := decide_eq_true (by omega)
        have p1 : (0 : Int) ≤ (kk : Int) := by omega
        have q1' : (kk : Int) < (ns.length : Int) := by omega
        obtain ⟨ad, e1, hx⟩ := Kd.at_string HCn.out (kk : Int) p1 q1'
        cases e1
        have hx2 : wr.cell? (ad.add kk) = some (.string (rdOf ByteArray.empty ns (kk : Int))) := pw_cell_below HW.out hx
        have i1 := eq_true p1
        have i2 := eq_true q1'
        have i3 : (kk < ns.length) = True := eq_true (by omega)
        have hA := HA.out
        rw [show ns.drop kk = rdOf ByteArray.empty ns (kk : Int) :: ns.drop (kk + 1) from drop_str (by omega)] at hA
        generalize rdOf ByteArray.empty ns (kk : Int) = y at hA hx hx2
        simp only [allHave] at hA
        obtain ⟨rr, hf, hA⟩ := Option.bind_eq_some_iff.mp hA
        have HA2 := Aside0.mk hA
        clear hA hx q0 q1 q2 q3 q4 f0 f1 f2 f3 f4 n0 n1 n2 n3 n4 x0 x1 x2 x3 x4 x5 x6 x7
        by_cases hrr : 0 ≤ rr
        · have d2 : decide (0 ≤ rr) = true := decide_eq_true hrr
          have hA := HA2.out
          rw [if_pos hrr] at hA
          have HA3 := Aside0.mk hA
          clear hA
          go_wp2_with (first
            | ((with_reducible refine gate_dst (N := 7) rfl ?_); refine bev (#[.string (⟨#[]⟩ : ByteArray)]) 9 ?_; intro gn hgn w5 hbox hb1; have HN := Aside0.mk hbox; have HGN := Aside0.mk (show w.heap.size ≤ gn from by rw [hgn]; exact HB1.out.size); have HWN := Aside0.mk (show w3.heap.size ≤ gn from by rw [hgn]; exact HW.out.size); have HB5 := Aside0.mk (HB1.out.trans (hb1.mono HB1.out.size)); have HW5 := Aside0.mk (HW.out.trans (hb1.mono HW.out.size)); obtain ⟨z0, z1⟩ := cz1 hbox; have zn := ne0 HZ.out HGN.out; clear hgn hbox hb1)
            | (go_at_call 36; refine (has27 40 #[.pointer (some ⟨gn, 0, none⟩)] (fun z => some (z.f0.toList == y.toList)) (enters_of Tryz.func40 (by kernel_rfl) rfl) l1 A1 c1 rr _ (Kd.C_below hr1 (HB5.out.setCell (p := ⟨gn, 0, none⟩) HGN.out _)) (gives40 gn y _ (blk_put HN.out 0 _ rfl)) hbig hf).mono ?_; rintro e w9 ⟨rfl, hb9⟩; have HW9 := Aside0.mk ((HW5.out.setCell (p := ⟨gn, 0, none⟩) HWN.out (.string y)).trans (hb9.mono (HW5.out.setCell (p := ⟨gn, 0, none⟩) HWN.out (.string y)).size)); have HB9 := Aside0.mk (HB.out.trans (HW9.out.mono HB.out.size)); have H49 := Aside0.mk (blk_below H4.out HW9.out); obtain ⟨q0, q1, q2, q3, q4, f0, f1, f2, f3, f4⟩ := cz5 H49.out; obtain ⟨n0, n1, n2, n3, n4⟩ := nullHere HTw.out HB9.out; have hz4 := ne0 HZ.out HG4.out; clear hb9))
          go_roundg n
          case measure => omega
          case rel => exact ⟨kk + 1, by omega, by go_num, HA3, HW9⟩
        · have d2 : decide (0 ≤ rr) = false := decide_eq_false hrr
          have hA := HA2.out
          rw [if_neg hrr] at hA
          obtain rfl := Option.some.inj hA
          have hh := HH.out
          simp only [Bool.false_eq_true, if_false, Option.some.injEq, Prod.mk.injEq] at hh
          obtain ⟨rfl, rfl, rfl, rfl, rfl, rfl⟩ := hh
          clear hA
          go_wp2_with (first
            | ((with_reducible refine gate_dst (N := 7) rfl ?_); refine bev (#[.string (⟨#[]⟩ : ByteArray)]) 9 ?_; intro gn hgn w5 hbox hb1; have HN := Aside0.mk hbox; have HGN := Aside0.mk (show w.heap.size ≤ gn from by rw [hgn]; exact HB1.out.size); have HWN := Aside0.mk (show w3.heap.size ≤ gn from by rw [hgn]; exact HW.out.size); have HB5 := Aside0.mk (HB1.out.trans (hb1.mono HB1.out.size)); have HW5 := Aside0.mk (HW.out.trans (hb1.mono HW.out.size)); obtain ⟨z0, z1⟩ := cz1 hbox; have zn := ne0 HZ.out HGN.out; clear hgn hbox hb1)
            | (go_at_call 36; refine (has27 40 #[.pointer (some ⟨gn, 0, none⟩)] (fun z => some (z.f0.toList == y.toList)) (enters_of Tryz.func40 (by kernel_rfl) rfl) l1 A1 c1 rr _ (Kd.C_below hr1 (HB5.out.setCell (p := ⟨gn, 0, none⟩) HGN.out _)) (gives40 gn y _ (blk_put HN.out 0 _ rfl)) hbig hf).mono ?_; rintro e w9 ⟨rfl, hb9⟩; have HW9 := Aside0.mk ((HW5.out.setCell (p := ⟨gn, 0, none⟩) HWN.out (.string y)).trans (hb9.mono (HW5.out.setCell (p := ⟨gn, 0, none⟩) HWN.out (.string y)).size)); have HB9 := Aside0.mk (HB.out.trans (HW9.out.mono HB.out.size)); have H49 := Aside0.mk (blk_below H4.out HW9.out); obtain ⟨q0, q1, q2, q3, q4, f0, f1, f2, f3, f4⟩ := cz5 H49.out; obtain ⟨n0, n1, n2, n3, n4⟩ := nullHere HTw.out HB9.out; have hz4 := ne0 HZ.out HG4.out; clear hb9))
          refine bodyPost_ret (results_ct rfl _ _ g4 25 #[.int .i64 0, .int .i64 0, .int .i64 0, .string (⟨#[]⟩ : ByteArray), .int .i64 0] (0, 0) _ rfl (put5 H49.out) Tryz.underlying25 rfl (by kernel_rfl)) rfl ?_
          exact ⟨rfl, below5 HB9.out HG4.out _ _ _ _ _⟩
end Go.Proofs.YtgkemhgihbfmmaaGreatDoor.PA
end
section
namespace Go.Proofs.YtgkemhgihbfmmaaGreatDoor.PA
open Go.RowKit Go.Proofs.YtgkemhgihbfmmaaGreatDoorW.PrintWords Go.Proofs.YtgkemhgihbfmmaaGreatDoorW.PrintLast Go.Proofs.YtgkemhgihbfmmaaGreatDoorW.PrintMore
attribute [local go_sem] max2_int min2_int max_two min_two max_three min_three max_four min_four isSome_set str_gtr
set_option linter.unusedVariables false
set_option linter.unusedSimpArgs false
attribute [local go_sem high] eqA25
def soffitlaw11_awake.f (k : Nat)  : Option (Bool) := (expr_Parse.f k (⟨#[105, 102, 32, 97, 32, 62, 32, 50, 32, 116, 104, 101, 110, 32, 97, 32, 42, 32, 50, 46, 53, 32, 101, 108, 115, 101, 32, 110, 117, 108, 108]⟩ : ByteArray)).bind fun bt1142 => ((calc_Eval.f k bt1142.1 bt1142.2.1 bt1142.2.2.1 bt1142.2.2.2.1 bt1142.2.2.2.2.1 bt1142.2.2.2.2.2.1 bt1142.2.2.2.2.2.2.1 bt1142.2.2.2.2.2.2.2.1 (([(⟨(⟨#[97]⟩ : ByteArray), (⟨1, (⟨3, 0⟩ : S23), (⟨#[]⟩ : ByteArray), 0⟩ : S25)⟩ : S27)] : List (S27)))).bind fun bt1158 => (if bt1142.2.2.2.2.2.2.2.2.2 = 0 then (if bt1158.2.2.2.2.2 = 0 then (some (bt1158.1 == 1 && ((bt1158.2.1 == 75 && (bt1158.2.2.1 == 1)) && (bt1158.2.2.2.1.toList == ([] : List UInt8) && (bt1158.2.2.2.2.1 == 0))))) else (some false)) else (some false)))
theorem soffitlaw11_awake.mono : ∀ k, LeO (soffitlaw11_awake.f k ) (soffitlaw11_awake.f (k + 1) ) := by
 intro  k
 unfold soffitlaw11_awake.f
 have q0 := @calc_Eval.mono; have q1 := @expr_Parse.mono; exact lmo
set_option maxHeartbeats 8000000 in
set_option maxRecDepth 100000 in
theorem soffitlaw11_awake.calls (k : Nat)  (r : Bool) (w : World) (hT : Tabs w) (h : soffitlaw11_awake.f k  = some r) :
  Calls Tryz.prog 14 #[] w fun e w' => e = .returned (.bool r) ∧ Below w.heap.size w w' := by
 have hu31 := Tryz.underlying31
 have hu23 := Tryz.underlying23
 have hu25 := Tryz.underlying25
 have hu27 := Tryz.underlying27
 have HT := am hT
 clear hT
 have HB := am (Below.refl w.heap.size w)
 have H : ((expr_Parse.f k (⟨#[105, 102, 32, 97, 32, 62, 32, 50, 32, 116, 104, 101, 110, 32, 97, 32, 42, 32, 50, 46, 53, 32, 101, 108, 115, 101, 32, 110, 117, 108, 108]⟩ : ByteArray)).bind fun bt1142 => ((calc_Eval.f k bt1142.1 bt1142.2.1 bt1142.2.2.1 bt1142.2.2.2.1 bt1142.2.2.2.2.1 bt1142.2.2.2.2.2.1 bt1142.2.2.2.2.2.2.1 bt1142.2.2.2.2.2.2.2.1 (([(⟨(⟨#[97]⟩ : ByteArray), (⟨1, (⟨3, 0⟩ : S23), (⟨#[]⟩ : ByteArray), 0⟩ : S25)⟩ : S27)] : List (S27)))).bind fun bt1158 => (if bt1142.2.2.2.2.2.2.2.2.2 = 0 then (if bt1158.2.2.2.2.2 = 0 then (some (bt1158.1 == 1 && ((bt1158.2.1 == 75 && (bt1158.2.2.1 == 1)) && (bt1158.2.2.2.1.toList == ([] : List UInt8) && (bt1158.2.2.2.2.1 == 0))))) else (some false)) else (some false)))) = some r := h
 clear h
 replace H := obe10 H
 obtain ⟨t1142, t1143, t1144, t1145, t1146, t1147, t1148, t1149, t1152, t1153, A1, H⟩ := H
 obtain ⟨y1155, hy1155⟩ : ∃ y_ : List (S27), y_ = (([(⟨(⟨#[97]⟩ : ByteArray), (⟨1, (⟨3, 0⟩ : S23), (⟨#[]⟩ : ByteArray), 0⟩ : S25)⟩ : S27)] : List (S27))) := ⟨_, rfl⟩
 replace H : ((calc_Eval.f k t1142 t1143 t1144 t1145 t1146 t1147 t1148 t1149 y1155).bind fun bt1158 => (if t1153 = 0 then (if bt1158.2.2.2.2.2 = 0 then (some (bt1158.1 == 1 && ((bt1158.2.1 == 75 && (bt1158.2.2.1 == 1)) && (bt1158.2.2.2.1.toList == ([] : List UInt8) && (bt1158.2.2.2.2.1 == 0))))) else (some false)) else (some false))) = some r := by first | (rw [hy1155]; with_reducible exact H) | (have H2_ := (Option.bind_some _ _).symm.trans H; rw [hy1155]; with_reducible exact H2_) | (have H2_ := (Option.bind_some _ _).symm.trans H; with_reducible exact H2_) | with_reducible exact H | (rw [hy1155]; exact H) | exact H
 have Ny1155 := am hy1155
 clear hy1155
 replace H := obe6 H
 obtain ⟨t1158, t1159, t1160, t1161, t1162, t1163, A2, H⟩ := H
 have HC3 := am H
 clear H
 go_enter Tryz.func14, Tryz.ntmps14
 go_upto_region 3 with (first | ((with_reducible refine gate_callee (f := 12) rfl ?_); refine gl_ (some 7) Tryz.func12 (by kernel_rfl) #[.string (⟨#[105, 102, 32, 97, 32, 62, 32, 50, 32, 116, 104, 101, 110, 32, 97, 32, 42, 32, 50, 46, 53, 32, 101, 108, 115, 101, 32, 110, 117, 108, 108]⟩ : ByteArray)] rfl ?_; (with_reducible refine (expr_Parse.calls k (⟨#[105, 102, 32, 97, 32, 62, 32, 50, 32, 116, 104, 101, 110, 32, 97, 32, 42, 32, 50, 46, 53, 32, 101, 108, 115, 101, 32, 110, 117, 108, 108]⟩ : ByteArray) t1142 t1143 t1144 t1145 t1146 t1147 t1148 t1149 t1152 t1153 _ ?side1 A1.out).mono ?_); (case side1 => exact tabs_of HT.out (bz HB.out)); rintro e w4 ⟨v1150, rfl, ho0, hb⟩; refine ⟨_, rfl, ?_⟩; have HO1151 := am (Kd.V_lower (Kd.V_mono (ok' := fun k_ => True) ho0 (fun k_ hk_ => trivial)) (below_size (bz HB.out))); replace HB := sb HB hb; clear hb ho0) | ((with_reducible refine gate_dst (N := 1) rfl ?_); refine bev (#[.int .i64 0, .int .i64 0, .int .i64 0, .int .i64 0, .string (⟨#[]⟩ : ByteArray), .int .i64 0, .string (⟨#[]⟩ : ByteArray), .slice none 0 0]) 31 ?_; intro gb1154 hg w5 hbox hb; replace HO1151 := am (Kd.V_below (Kd.V_elderB (vv HO1151.out) gb1154 (Nat.le_of_eq hg.symm)) hb); have BK1154 := am (hbox); have GW1154 := gs hg HB; have GE1154 := GW1154; replace HB := sb HB hb; clear hb hbox hg; obtain ⟨Z6_0, Z6_1, Z6_2, Z6_3, Z6_4, Z6_5, Z6_6, Z6_7, F6_0, F6_1, F6_2, F6_3, F6_4, F6_5, F6_6, F6_7⟩ := cz8 BK1154.out; obtain ⟨Ao7, co7, eo7⟩ := Kd.V_slice HO1151.out; subst eo7) | ((with_reducible refine gate_dst (N := 16) rfl ?_); refine rlit k27 27 ([(⟨(⟨#[97]⟩ : ByteArray), (⟨1, (⟨3, 0⟩ : S23), (⟨#[]⟩ : ByteArray), 0⟩ : S25)⟩ : S27)] : List (S27)) [.string (⟨#[97]⟩ : ByteArray), .int .i64 1, .int .i64 3, .int .i64 0, .string (⟨#[]⟩ : ByteArray), .int .i64 0] ?_ (Below.refl _ _) (Nat.le_refl _) (Reps.c6 (show Kd.M k27 _ _ _ (⟨(⟨#[97]⟩ : ByteArray), (⟨1, (⟨3, 0⟩ : S23), (⟨#[]⟩ : ByteArray), 0⟩ : S25)⟩ : S27) [.string (⟨#[97]⟩ : ByteArray), .int .i64 1, .int .i64 3, .int .i64 0, .string (⟨#[]⟩ : ByteArray), .int .i64 0] from (k27_mkM _ _ _ (⟨(⟨#[97]⟩ : ByteArray), (⟨1, (⟨3, 0⟩ : S23), (⟨#[]⟩ : ByteArray), 0⟩ : S25)⟩ : S27) )) (Reps.none _ _)); intro v1156 w8 ho9 hb hg_ hnew_; clear hg_ hnew_; (first | rw [← Ny1155.out] at ho9 | (simp only [Int.reduceToNat] at ho9; rw [← Ny1155.out] at ho9)); replace HO1151 := am (Kd.V_elder' (by (with_reducible repeat (first | apply Kd.V_alloc | apply Kd.V_drewN | apply Kd.V_drew)); exact (Kd.V_mono (Kd.V_far (p := ⟨gb1154, 7, none⟩) (Kd.V_far (p := ⟨gb1154, 6, none⟩) (Kd.V_far (p := ⟨gb1154, 5, none⟩) (Kd.V_far (p := ⟨gb1154, 4, none⟩) (Kd.V_far (p := ⟨gb1154, 3, none⟩) (Kd.V_far (p := ⟨gb1154, 2, none⟩) (Kd.V_far (p := ⟨gb1154, 1, none⟩) (Kd.V_far (p := ⟨gb1154, 0, none⟩) (Kd.V_mono HO1151.out (fun k_ hk => (⟨hk, hk.2⟩ : _ ∧ k_ ≠ gb1154))) (fun _ hk => hk.2) (.int .i64 t1142)) (fun _ hk => hk.2) (.int .i64 t1143)) (fun _ hk => hk.2) (.int .i64 t1144)) (fun _ hk => hk.2) (.int .i64 t1145)) (fun _ hk => hk.2) (.string t1146)) (fun _ hk => hk.2) (.int .i64 t1147)) (fun _ hk => hk.2) (.string t1148)) (fun _ hk => hk.2) (.slice Ao7 t1149.length co7)) (fun _ h_ => h_.1))) (Kd.R_base ho9) hb); have HO1157 := am (Kd.R_lower ho9 (below_size (bz HB.out))); replace BK1154 := am (blk_below (g := gb1154) (o := .cells #[.int .i64 t1142, .int .i64 t1143, .int .i64 t1144, .int .i64 t1145, .string t1146, .int .i64 t1147, .string t1148, .slice Ao7 t1149.length co7] 31 (0, 0)) (bp BK1154.out) hb); replace HB := sb HB hb; clear hb ho9; obtain ⟨Ao10, co10, eo10⟩ := Kd.R_slice HO1157.out; subst eo10) | ((with_reducible refine gate_callee (f := 13) rfl ?_); refine gl_ (some 17) Tryz.func13 (by kernel_rfl) #[.agg #[.int .i64 t1142, .int .i64 t1143, .int .i64 t1144, .int .i64 t1145, .string t1146, .int .i64 t1147, .string t1148, .slice Ao7 t1149.length co7], .slice Ao10 y1155.length co10] rfl ?_; (with_reducible refine (calc_Eval.calls k t1142 t1143 t1144 t1145 t1146 t1147 t1148 _ _ t1149 _ _ y1155 t1158 t1159 t1160 t1161 t1162 t1163 _ ?side1 ?side2 ?side3 ?side4 ?side5 A2.out).mono ?_); (case side1 => repeat (first | exact (Kd.V_reads' HO1151.out).2.2 | (with_reducible refine Kd.C_alloc ?_ _) | (with_reducible refine Kd.C_drewN ?_ _) | (with_reducible refine Kd.C_drew ?_))); (case side2 => exact (Kd.V_reads' HO1151.out).2.1); (case side3 => repeat (first | exact (Kd.R_reads' HO1157.out).2.2 | (with_reducible refine Kd.C_alloc ?_ _) | (with_reducible refine Kd.C_drewN ?_ _) | (with_reducible refine Kd.C_drew ?_))); (case side4 => exact (Kd.R_reads' HO1157.out).2.1); (case side5 => exact tabs_of HT.out (bz HB.out)); rintro e w11 ⟨rfl, hb⟩; refine ⟨_, rfl, ?_⟩; replace HO1151 := am (Kd.V_below (vv HO1151.out) hb); replace HO1157 := am (Kd.R_below (rr HO1157.out) hb); replace BK1154 := kb BK1154 hb; replace HB := sb HB hb; clear hb) | ((with_reducible refine gate_dst (N := 4) rfl ?_); refine bev (#[.int .i64 0, .int .i64 0, .int .i64 0, .string (⟨#[]⟩ : ByteArray), .int .i64 0]) 25 ?_; intro gb1164 hg w12 hbox hb; replace HO1151 := am (Kd.V_below (Kd.V_elderB (vv HO1151.out) gb1164 (Nat.le_of_eq hg.symm)) hb); replace HO1157 := am (Kd.R_below (rr HO1157.out) hb); have BK1164 := am (hbox); have GW1164 := gs hg HB; have GE1164 := GW1164; replace HB := sb HB hb; have NB1154_1164 := na hg BK1154; have NB1164_1154 := nb hg BK1154; replace BK1154 := kb BK1154 hb; clear hb hbox hg; have hnb13 := NB1164_1154.out; have hnc13 := NB1154_1164.out; obtain ⟨Z14_0, Z14_1, Z14_2, Z14_3, Z14_4, F14_0, F14_1, F14_2, F14_3, F14_4⟩ := cz5 BK1164.out))
 (try simp only [Act.put, List.setIfInBounds_toArray, List.set_cons_zero, List.set_cons_succ])
 have H := HC3.out
 clear HC3
 clear Z6_0 Z6_1 Z6_2 Z6_3 Z6_4 Z6_5 Z6_6 Z6_7 F6_0 F6_1 F6_2 F6_3 F6_4 F6_5 F6_6 F6_7 Z14_0 Z14_1 Z14_2 Z14_3 Z14_4 F14_0 F14_1 F14_2 F14_3 F14_4
 by_cases c15 : t1153 = 0
 ·replace H := ipe c15 H
  obtain ⟨H, c15b0, c15b1⟩ := H
  clear c15
  (first | rw [c15b0] | (simp only [i64_w, i32_w]; rw [c15b0]) | skip)
  by_cases c16 : t1163 = 0
  ·replace H := ipe c16 H
   obtain ⟨H, c16b0, c16b1⟩ := H
   clear c16
   obtain rfl := Option.some.inj H
   have hnb17 := NB1164_1154.out
   have hnc17 := NB1154_1164.out
   obtain ⟨Z18_0, Z18_1, Z18_2, Z18_3, Z18_4, F18_0, F18_1, F18_2, F18_3, F18_4⟩ := cz5 BK1164.out
   go_wp2
   go_ret
   exact ⟨az, bz HB.out⟩
  replace H := ine c16 H
  obtain ⟨H, c16b0, c16b1⟩ := H
  obtain rfl := Option.some.inj H
  go_wp2
  go_ret
  exact ⟨az, bz HB.out⟩
 replace H := ine c15 H
 obtain ⟨H, c15b0, c15b1⟩ := H
 (first | rw [c15b0] | (simp only [i64_w, i32_w]; rw [c15b0]) | skip)
 obtain rfl := Option.some.inj H
 go_wp2
 go_ret
 exact ⟨az, bz HB.out⟩
end Go.Proofs.YtgkemhgihbfmmaaGreatDoor.PA
end
section
namespace Go.Proofs.YtgkemhgihbfmmaaGreatDoor.PA
open Go.RowKit Go.Proofs.YtgkemhgihbfmmaaGreatDoorW.PrintWords Go.Proofs.YtgkemhgihbfmmaaGreatDoorW.PrintLast Go.Proofs.YtgkemhgihbfmmaaGreatDoorW.PrintMore
attribute [local go_sem] max2_int min2_int max_two min_two max_three min_three max_four min_four isSome_set str_gtr
set_option linter.unusedVariables false
set_option linter.unusedSimpArgs false
attribute [local go_sem high] eqA25
mutual
def soffitlaw11_CalcSides.l0 : Nat → List (S27) → List (List ByteArray) → Int → Option (Bool)
 | 0, _, _, _ => none
 | k + 1, x5, x6, x7 => if x7 < (x6.length : Int) then (if 0 ≤ x7 then (if 0 < ((rd_L6 x6 x7).length : Int) then ((expr_Parse.f k (rdOf ByteArray.empty (rd_L6 x6 x7) 0)).bind fun bt1194 => (if 1 < ((rd_L6 x6 x7).length : Int) then ((expr_Parse.f k (rdOf ByteArray.empty (rd_L6 x6 x7) 1)).bind fun bt1209 => ((calc_Eval.f k bt1194.1 bt1194.2.1 bt1194.2.2.1 bt1194.2.2.2.1 bt1194.2.2.2.2.1 bt1194.2.2.2.2.2.1 bt1194.2.2.2.2.2.2.1 bt1194.2.2.2.2.2.2.2.1 x5).bind fun bt1222 => ((calc_Eval.f k bt1209.1 bt1209.2.1 bt1209.2.2.1 bt1209.2.2.2.1 bt1209.2.2.2.2.1 bt1209.2.2.2.2.2.1 bt1209.2.2.2.2.2.2.1 bt1209.2.2.2.2.2.2.2.1 x5).bind fun bt1229 => (if bt1194.2.2.2.2.2.2.2.2.2 = 0 then (if bt1209.2.2.2.2.2.2.2.2.2 = 0 then (if bt1222.2.2.2.2.2 = bt1229.2.2.2.2.2 then (soffitlaw11_CalcSides.j1 k x5 x6 x7 (!(bt1222.1 == bt1229.1) || ((!(bt1222.2.1 == bt1229.2.1) || (!(bt1222.2.2.1 == bt1229.2.2.1))) || (!(bt1222.2.2.2.1.toList == bt1229.2.2.2.1.toList) || (!(bt1222.2.2.2.2.1 == bt1229.2.2.2.2.1)))))) else (soffitlaw11_CalcSides.j1 k x5 x6 x7 true)) else (soffitlaw11_CalcSides.j1 k x5 x6 x7 true)) else (soffitlaw11_CalcSides.j1 k x5 x6 x7 true))))) else (none))) else (none)) else (none)) else ((soffitlaw11_awake.f k).bind fun t1191 => (some t1191))
def soffitlaw11_CalcSides.j1 : Nat → List (S27) → List (List ByteArray) → Int → Bool → Option (Bool)
 | 0, _, _, _, _ => none
 | k + 1, x5, x6, x7, x85 => if x85 = true then (some false) else (soffitlaw11_CalcSides.l0 k x5 x6 (wrap64 (x7 + 1)))
end
def soffitlaw11_CalcSides.f (k : Nat) (a0_0 a0_1 a0_2 : Int) (a0_3 : ByteArray) (a0_4 a1_0 a1_1 a1_2 : Int) (a1_3 : ByteArray) (a1_4 : Int) : Option (Bool) := soffitlaw11_CalcSides.l0 k (([(⟨(⟨#[97]⟩ : ByteArray), (⟨a0_0, (⟨a0_1, a0_2⟩ : S23), a0_3, a0_4⟩ : S25)⟩ : S27), (⟨(⟨#[98]⟩ : ByteArray), (⟨a1_0, (⟨a1_1, a1_2⟩ : S23), a1_3, a1_4⟩ : S25)⟩ : S27)] : List (S27))) (([(([(⟨#[97, 32, 60, 32, 98]⟩ : ByteArray), (⟨#[98, 32, 62, 32, 97]⟩ : ByteArray)] : List ByteArray)), (([(⟨#[97, 32, 60, 61, 32, 98]⟩ : ByteArray), (⟨#[110, 111, 116, 40, 98, 32, 60, 32, 97, 41]⟩ : ByteArray)] : List ByteArray)), (([(⟨#[97, 32, 62, 61, 32, 98]⟩ : ByteArray), (⟨#[98, 32, 60, 61, 32, 97]⟩ : ByteArray)] : List ByteArray)), (([(⟨#[97, 32, 33, 61, 32, 98]⟩ : ByteArray), (⟨#[110, 111, 116, 40, 97, 32, 61, 32, 98, 41]⟩ : ByteArray)] : List ByteArray)), (([(⟨#[97, 32, 61, 32, 98]⟩ : ByteArray), (⟨#[98, 32, 61, 32, 97]⟩ : ByteArray)] : List ByteArray)), (([(⟨#[97, 32, 60, 32, 98]⟩ : ByteArray), (⟨#[110, 111, 116, 40, 110, 111, 116, 40, 97, 32, 60, 32, 98, 41, 41]⟩ : ByteArray)] : List ByteArray))] : List (List ByteArray))) 0
set_option maxHeartbeats 8000000 in
set_option maxRecDepth 100000 in
theorem soffitlaw11_CalcSides.calls (k : Nat) (a0_0 a0_1 a0_2 : Int) (a0_3 : ByteArray) (a0_4 a1_0 a1_1 a1_2 : Int) (a1_3 : ByteArray) (a1_4 : Int) (r : Bool) (w : World) (hT : Tabs w) (hr : r = true) (h : soffitlaw11_CalcSides.f k a0_0 a0_1 a0_2 a0_3 a0_4 a1_0 a1_1 a1_2 a1_3 a1_4 = some r) :
  Calls Tryz.prog 4 #[.agg #[.int .i64 a0_0, .int .i64 a0_1, .int .i64 a0_2, .string a0_3, .int .i64 a0_4], .agg #[.int .i64 a1_0, .int .i64 a1_1, .int .i64 a1_2, .string a1_3, .int .i64 a1_4]] w fun e w' => e = .returned (.bool r) ∧ Below w.heap.size w w' := by
 have hu25 := Tryz.underlying25
 have hu27 := Tryz.underlying27
 have hu31 := Tryz.underlying31
 have HT := am hT
 clear hT
 have HR := am hr
 clear hr
 have HB := am (Below.refl w.heap.size w)
 have H : (soffitlaw11_CalcSides.l0 k (([(⟨(⟨#[97]⟩ : ByteArray), (⟨a0_0, (⟨a0_1, a0_2⟩ : S23), a0_3, a0_4⟩ : S25)⟩ : S27), (⟨(⟨#[98]⟩ : ByteArray), (⟨a1_0, (⟨a1_1, a1_2⟩ : S23), a1_3, a1_4⟩ : S25)⟩ : S27)] : List (S27))) (([(([(⟨#[97, 32, 60, 32, 98]⟩ : ByteArray), (⟨#[98, 32, 62, 32, 97]⟩ : ByteArray)] : List ByteArray)), (([(⟨#[97, 32, 60, 61, 32, 98]⟩ : ByteArray), (⟨#[110, 111, 116, 40, 98, 32, 60, 32, 97, 41]⟩ : ByteArray)] : List ByteArray)), (([(⟨#[97, 32, 62, 61, 32, 98]⟩ : ByteArray), (⟨#[98, 32, 60, 61, 32, 97]⟩ : ByteArray)] : List ByteArray)), (([(⟨#[97, 32, 33, 61, 32, 98]⟩ : ByteArray), (⟨#[110, 111, 116, 40, 97, 32, 61, 32, 98, 41]⟩ : ByteArray)] : List ByteArray)), (([(⟨#[97, 32, 61, 32, 98]⟩ : ByteArray), (⟨#[98, 32, 61, 32, 97]⟩ : ByteArray)] : List ByteArray)), (([(⟨#[97, 32, 60, 32, 98]⟩ : ByteArray), (⟨#[110, 111, 116, 40, 110, 111, 116, 40, 97, 32, 60, 32, 98, 41, 41]⟩ : ByteArray)] : List ByteArray))] : List (List ByteArray))) 0) = some r := h
 clear h
 obtain ⟨y1167, hy1167⟩ : ∃ y_ : List (S27), y_ = (([(⟨(⟨#[97]⟩ : ByteArray), (⟨a0_0, (⟨a0_1, a0_2⟩ : S23), a0_3, a0_4⟩ : S25)⟩ : S27), (⟨(⟨#[98]⟩ : ByteArray), (⟨a1_0, (⟨a1_1, a1_2⟩ : S23), a1_3, a1_4⟩ : S25)⟩ : S27)] : List (S27))) := ⟨_, rfl⟩
 replace H : (soffitlaw11_CalcSides.l0 k y1167 (([(([(⟨#[97, 32, 60, 32, 98]⟩ : ByteArray), (⟨#[98, 32, 62, 32, 97]⟩ : ByteArray)] : List ByteArray)), (([(⟨#[97, 32, 60, 61, 32, 98]⟩ : ByteArray), (⟨#[110, 111, 116, 40, 98, 32, 60, 32, 97, 41]⟩ : ByteArray)] : List ByteArray)), (([(⟨#[97, 32, 62, 61, 32, 98]⟩ : ByteArray), (⟨#[98, 32, 60, 61, 32, 97]⟩ : ByteArray)] : List ByteArray)), (([(⟨#[97, 32, 33, 61, 32, 98]⟩ : ByteArray), (⟨#[110, 111, 116, 40, 97, 32, 61, 32, 98, 41]⟩ : ByteArray)] : List ByteArray)), (([(⟨#[97, 32, 61, 32, 98]⟩ : ByteArray), (⟨#[98, 32, 61, 32, 97]⟩ : ByteArray)] : List ByteArray)), (([(⟨#[97, 32, 60, 32, 98]⟩ : ByteArray), (⟨#[110, 111, 116, 40, 110, 111, 116, 40, 97, 32, 60, 32, 98, 41, 41]⟩ : ByteArray)] : List ByteArray))] : List (List ByteArray))) 0) = some r := by first | (rw [hy1167]; with_reducible exact H) | (have H2_ := (Option.bind_some _ _).symm.trans H; rw [hy1167]; with_reducible exact H2_) | (have H2_ := (Option.bind_some _ _).symm.trans H; with_reducible exact H2_) | with_reducible exact H | (rw [hy1167]; exact H) | exact H
 have Ny1167 := am hy1167
 clear hy1167
 obtain ⟨y1170, hy1170⟩ : ∃ y_ : List ByteArray, y_ = (([(⟨#[97, 32, 60, 32, 98]⟩ : ByteArray), (⟨#[98, 32, 62, 32, 97]⟩ : ByteArray)] : List ByteArray)) := ⟨_, rfl⟩
 replace H : (soffitlaw11_CalcSides.l0 k y1167 (([y1170, (([(⟨#[97, 32, 60, 61, 32, 98]⟩ : ByteArray), (⟨#[110, 111, 116, 40, 98, 32, 60, 32, 97, 41]⟩ : ByteArray)] : List ByteArray)), (([(⟨#[97, 32, 62, 61, 32, 98]⟩ : ByteArray), (⟨#[98, 32, 60, 61, 32, 97]⟩ : ByteArray)] : List ByteArray)), (([(⟨#[97, 32, 33, 61, 32, 98]⟩ : ByteArray), (⟨#[110, 111, 116, 40, 97, 32, 61, 32, 98, 41]⟩ : ByteArray)] : List ByteArray)), (([(⟨#[97, 32, 61, 32, 98]⟩ : ByteArray), (⟨#[98, 32, 61, 32, 97]⟩ : ByteArray)] : List ByteArray)), (([(⟨#[97, 32, 60, 32, 98]⟩ : ByteArray), (⟨#[110, 111, 116, 40, 110, 111, 116, 40, 97, 32, 60, 32, 98, 41, 41]⟩ : ByteArray)] : List ByteArray))] : List (List ByteArray))) 0) = some r := by first | (rw [hy1170]; with_reducible exact H) | (have H2_ := (Option.bind_some _ _).symm.trans H; rw [hy1170]; with_reducible exact H2_) | (have H2_ := (Option.bind_some _ _).symm.trans H; with_reducible exact H2_) | with_reducible exact H | (rw [hy1170]; exact H) | exact H
 have Ny1170 := am hy1170
 clear hy1170
 obtain ⟨y1173, hy1173⟩ : ∃ y_ : List ByteArray, y_ = (([(⟨#[97, 32, 60, 61, 32, 98]⟩ : ByteArray), (⟨#[110, 111, 116, 40, 98, 32, 60, 32, 97, 41]⟩ : ByteArray)] : List ByteArray)) := ⟨_, rfl⟩
 replace H : (soffitlaw11_CalcSides.l0 k y1167 (([y1170, y1173, (([(⟨#[97, 32, 62, 61, 32, 98]⟩ : ByteArray), (⟨#[98, 32, 60, 61, 32, 97]⟩ : ByteArray)] : List ByteArray)), (([(⟨#[97, 32, 33, 61, 32, 98]⟩ : ByteArray), (⟨#[110, 111, 116, 40, 97, 32, 61, 32, 98, 41]⟩ : ByteArray)] : List ByteArray)), (([(⟨#[97, 32, 61, 32, 98]⟩ : ByteArray), (⟨#[98, 32, 61, 32, 97]⟩ : ByteArray)] : List ByteArray)), (([(⟨#[97, 32, 60, 32, 98]⟩ : ByteArray), (⟨#[110, 111, 116, 40, 110, 111, 116, 40, 97, 32, 60, 32, 98, 41, 41]⟩ : ByteArray)] : List ByteArray))] : List (List ByteArray))) 0) = some r := by first | (rw [hy1173]; with_reducible exact H) | (have H2_ := (Option.bind_some _ _).symm.trans H; rw [hy1173]; with_reducible exact H2_) | (have H2_ := (Option.bind_some _ _).symm.trans H; with_reducible exact H2_) | with_reducible exact H | (rw [hy1173]; exact H) | exact H
 have Ny1173 := am hy1173
 clear hy1173
 obtain ⟨y1176, hy1176⟩ : ∃ y_ : List ByteArray, y_ = (([(⟨#[97, 32, 62, 61, 32, 98]⟩ : ByteArray), (⟨#[98, 32, 60, 61, 32, 97]⟩ : ByteArray)] : List ByteArray)) := ⟨_, rfl⟩
 replace H : (soffitlaw11_CalcSides.l0 k y1167 (([y1170, y1173, y1176, (([(⟨#[97, 32, 33, 61, 32, 98]⟩ : ByteArray), (⟨#[110, 111, 116, 40, 97, 32, 61, 32, 98, 41]⟩ : ByteArray)] : List ByteArray)), (([(⟨#[97, 32, 61, 32, 98]⟩ : ByteArray), (⟨#[98, 32, 61, 32, 97]⟩ : ByteArray)] : List ByteArray)), (([(⟨#[97, 32, 60, 32, 98]⟩ : ByteArray), (⟨#[110, 111, 116, 40, 110, 111, 116, 40, 97, 32, 60, 32, 98, 41, 41]⟩ : ByteArray)] : List ByteArray))] : List (List ByteArray))) 0) = some r := by first | (rw [hy1176]; with_reducible exact H) | (have H2_ := (Option.bind_some _ _).symm.trans H; rw [hy1176]; with_reducible exact H2_) | (have H2_ := (Option.bind_some _ _).symm.trans H; with_reducible exact H2_) | with_reducible exact H | (rw [hy1176]; exact H) | exact H
 have Ny1176 := am hy1176
 clear hy1176
 obtain ⟨y1179, hy1179⟩ : ∃ y_ : List ByteArray, y_ = (([(⟨#[97, 32, 33, 61, 32, 98]⟩ : ByteArray), (⟨#[110, 111, 116, 40, 97, 32, 61, 32, 98, 41]⟩ : ByteArray)] : List ByteArray)) := ⟨_, rfl⟩
 replace H : (soffitlaw11_CalcSides.l0 k y1167 (([y1170, y1173, y1176, y1179, (([(⟨#[97, 32, 61, 32, 98]⟩ : ByteArray), (⟨#[98, 32, 61, 32, 97]⟩ : ByteArray)] : List ByteArray)), (([(⟨#[97, 32, 60, 32, 98]⟩ : ByteArray), (⟨#[110, 111, 116, 40, 110, 111, 116, 40, 97, 32, 60, 32, 98, 41, 41]⟩ : ByteArray)] : List ByteArray))] : List (List ByteArray))) 0) = some r := by first | (rw [hy1179]; with_reducible exact H) | (have H2_ := (Option.bind_some _ _).symm.trans H; rw [hy1179]; with_reducible exact H2_) | (have H2_ := (Option.bind_some _ _).symm.trans H; with_reducible exact H2_) | with_reducible exact H | (rw [hy1179]; exact H) | exact H
 have Ny1179 := am hy1179
 clear hy1179
 obtain ⟨y1182, hy1182⟩ : ∃ y_ : List ByteArray, y_ = (([(⟨#[97, 32, 61, 32, 98]⟩ : ByteArray), (⟨#[98, 32, 61, 32, 97]⟩ : ByteArray)] : List ByteArray)) := ⟨_, rfl⟩
 replace H : (soffitlaw11_CalcSides.l0 k y1167 (([y1170, y1173, y1176, y1179, y1182, (([(⟨#[97, 32, 60, 32, 98]⟩ : ByteArray), (⟨#[110, 111, 116, 40, 110, 111, 116, 40, 97, 32, 60, 32, 98, 41, 41]⟩ : ByteArray)] : List ByteArray))] : List (List ByteArray))) 0) = some r := by first | (rw [hy1182]; with_reducible exact H) | (have H2_ := (Option.bind_some _ _).symm.trans H; rw [hy1182]; with_reducible exact H2_) | (have H2_ := (Option.bind_some _ _).symm.trans H; with_reducible exact H2_) | with_reducible exact H | (rw [hy1182]; exact H) | exact H
 have Ny1182 := am hy1182
 clear hy1182
 obtain ⟨y1185, hy1185⟩ : ∃ y_ : List ByteArray, y_ = (([(⟨#[97, 32, 60, 32, 98]⟩ : ByteArray), (⟨#[110, 111, 116, 40, 110, 111, 116, 40, 97, 32, 60, 32, 98, 41, 41]⟩ : ByteArray)] : List ByteArray)) := ⟨_, rfl⟩
 replace H : (soffitlaw11_CalcSides.l0 k y1167 (([y1170, y1173, y1176, y1179, y1182, y1185] : List (List ByteArray))) 0) = some r := by first | (rw [hy1185]; with_reducible exact H) | (have H2_ := (Option.bind_some _ _).symm.trans H; rw [hy1185]; with_reducible exact H2_) | (have H2_ := (Option.bind_some _ _).symm.trans H; with_reducible exact H2_) | with_reducible exact H | (rw [hy1185]; exact H) | exact H
 have Ny1185 := am hy1185
 clear hy1185
 obtain ⟨y1188, hy1188⟩ : ∃ y_ : List (List ByteArray), y_ = (([y1170, y1173, y1176, y1179, y1182, y1185] : List (List ByteArray))) := ⟨_, rfl⟩
 replace H : (soffitlaw11_CalcSides.l0 k y1167 y1188 0) = some r := by first | (rw [hy1188]; with_reducible exact H) | (have H2_ := (Option.bind_some _ _).symm.trans H; rw [hy1188]; with_reducible exact H2_) | (have H2_ := (Option.bind_some _ _).symm.trans H; with_reducible exact H2_) | with_reducible exact H | (rw [hy1188]; exact H) | exact H
 have Ny1188 := am hy1188
 clear hy1188
 have H' := am H
 clear H
 go_enter Tryz.func4, Tryz.ntmps4
 go_wp2_with (first | ((with_reducible refine gate_dst (N := 2) rfl ?_); refine bev (#[.int .i64 a0_0, .int .i64 a0_1, .int .i64 a0_2, .string a0_3, .int .i64 a0_4]) 25 ?_; intro gb1165 hg w3 hbox hb; have BK1165 := am (hbox); have GW1165 := gs hg HB; have GE1165 := GW1165; replace HB := sb HB hb; clear hb hbox hg) | ((with_reducible refine gate_dst (N := 3) rfl ?_); refine bev (#[.int .i64 a1_0, .int .i64 a1_1, .int .i64 a1_2, .string a1_3, .int .i64 a1_4]) 25 ?_; intro gb1166 hg w4 hbox hb; have BK1166 := am (hbox); have GW1166 := gs hg HB; have GE1166 := GW1166; replace HB := sb HB hb; have NB1165_1166 := na hg BK1165; have NB1166_1165 := nb hg BK1165; replace BK1165 := kb BK1165 hb; clear hb hbox hg; have hnb5 := NB1165_1166.out; have hnc5 := NB1166_1165.out; obtain ⟨Z6_0, Z6_1, Z6_2, Z6_3, Z6_4, F6_0, F6_1, F6_2, F6_3, F6_4⟩ := cz5 BK1165.out; obtain ⟨Z7_0, Z7_1, Z7_2, Z7_3, Z7_4, F7_0, F7_1, F7_2, F7_3, F7_4⟩ := cz5 BK1166.out) | ((with_reducible refine gate_dst (N := 22) rfl ?_); refine rlit k27 27 ([(⟨(⟨#[97]⟩ : ByteArray), (⟨a0_0, (⟨a0_1, a0_2⟩ : S23), a0_3, a0_4⟩ : S25)⟩ : S27), (⟨(⟨#[98]⟩ : ByteArray), (⟨a1_0, (⟨a1_1, a1_2⟩ : S23), a1_3, a1_4⟩ : S25)⟩ : S27)] : List (S27)) [.string (⟨#[97]⟩ : ByteArray), .int .i64 a0_0, .int .i64 a0_1, .int .i64 a0_2, .string a0_3, .int .i64 a0_4, .string (⟨#[98]⟩ : ByteArray), .int .i64 a1_0, .int .i64 a1_1, .int .i64 a1_2, .string a1_3, .int .i64 a1_4] ?_ (Below.refl _ _) (Nat.le_refl _) (Reps.c6 (show Kd.M k27 _ _ _ (⟨(⟨#[97]⟩ : ByteArray), (⟨a0_0, (⟨a0_1, a0_2⟩ : S23), a0_3, a0_4⟩ : S25)⟩ : S27) [.string (⟨#[97]⟩ : ByteArray), .int .i64 a0_0, .int .i64 a0_1, .int .i64 a0_2, .string a0_3, .int .i64 a0_4] from (k27_mkM _ _ _ (⟨(⟨#[97]⟩ : ByteArray), (⟨a0_0, (⟨a0_1, a0_2⟩ : S23), a0_3, a0_4⟩ : S25)⟩ : S27) )) (Reps.c6 (show Kd.M k27 _ _ _ (⟨(⟨#[98]⟩ : ByteArray), (⟨a1_0, (⟨a1_1, a1_2⟩ : S23), a1_3, a1_4⟩ : S25)⟩ : S27) [.string (⟨#[98]⟩ : ByteArray), .int .i64 a1_0, .int .i64 a1_1, .int .i64 a1_2, .string a1_3, .int .i64 a1_4] from (k27_mkM _ _ _ (⟨(⟨#[98]⟩ : ByteArray), (⟨a1_0, (⟨a1_1, a1_2⟩ : S23), a1_3, a1_4⟩ : S25)⟩ : S27) )) (Reps.none _ _))); intro v1168 w8 ho9 hb hg_ hnew_; clear hg_ hnew_; (first | rw [← Ny1167.out] at ho9 | (simp only [Int.reduceToNat] at ho9; rw [← Ny1167.out] at ho9)); have HO1169 := am (Kd.R_lower ho9 (below_size (bz HB.out))); replace BK1165 := kb BK1165 hb; replace BK1166 := kb BK1166 hb; replace HB := sb HB hb; clear hb ho9) | ((with_reducible refine gate_dst (N := 23) rfl ?_); refine rlit Kd.string 9 ([(⟨#[97, 32, 60, 32, 98]⟩ : ByteArray), (⟨#[98, 32, 62, 32, 97]⟩ : ByteArray)] : List ByteArray) [.string (⟨#[97, 32, 60, 32, 98]⟩ : ByteArray), .string (⟨#[98, 32, 62, 32, 97]⟩ : ByteArray)] ?_ (Below.refl _ _) (Nat.le_refl _) (r1s (r1s (Reps.none _ _))); intro v1171 w10 ho11 hb hg_ hnew_; clear hg_ hnew_; (first | rw [← Ny1170.out] at ho11 | (simp only [Int.reduceToNat] at ho11; rw [← Ny1170.out] at ho11)); replace HO1169 := am (Kd.R_below (rr HO1169.out) hb); have HO1172 := am (Kd.R_lower ho11 (below_size (bz HB.out))); replace BK1165 := kb BK1165 hb; replace BK1166 := kb BK1166 hb; replace HB := sb HB hb; clear hb ho11) | ((with_reducible refine gate_dst (N := 24) rfl ?_); refine rlit Kd.string 9 ([(⟨#[97, 32, 60, 61, 32, 98]⟩ : ByteArray), (⟨#[110, 111, 116, 40, 98, 32, 60, 32, 97, 41]⟩ : ByteArray)] : List ByteArray) [.string (⟨#[97, 32, 60, 61, 32, 98]⟩ : ByteArray), .string (⟨#[110, 111, 116, 40, 98, 32, 60, 32, 97, 41]⟩ : ByteArray)] ?_ (Below.refl _ _) (Nat.le_refl _) (r1s (r1s (Reps.none _ _))); intro v1174 w12 ho13 hb hg_ hnew_; clear hg_ hnew_; (first | rw [← Ny1173.out] at ho13 | (simp only [Int.reduceToNat] at ho13; rw [← Ny1173.out] at ho13)); replace HO1169 := am (Kd.R_below (rr HO1169.out) hb); have HO1175 := am (Kd.R_lower (Kd.R_new' ho13 (Kd.R_lt (rr HO1172.out))) (below_size (bz HB.out))); replace HO1172 := am (Kd.R_elder' (rr HO1172.out) (Kd.R_base ho13) hb); replace BK1165 := kb BK1165 hb; replace BK1166 := kb BK1166 hb; replace HB := sb HB hb; clear hb ho13) | ((with_reducible refine gate_dst (N := 25) rfl ?_); refine rlit Kd.string 9 ([(⟨#[97, 32, 62, 61, 32, 98]⟩ : ByteArray), (⟨#[98, 32, 60, 61, 32, 97]⟩ : ByteArray)] : List ByteArray) [.string (⟨#[97, 32, 62, 61, 32, 98]⟩ : ByteArray), .string (⟨#[98, 32, 60, 61, 32, 97]⟩ : ByteArray)] ?_ (Below.refl _ _) (Nat.le_refl _) (r1s (r1s (Reps.none _ _))); intro v1177 w14 ho15 hb hg_ hnew_; clear hg_ hnew_; (first | rw [← Ny1176.out] at ho15 | (simp only [Int.reduceToNat] at ho15; rw [← Ny1176.out] at ho15)); replace HO1169 := am (Kd.R_below (rr HO1169.out) hb); have HO1178 := am (Kd.R_lower (Kd.R_new' (Kd.R_new' ho15 (Kd.R_lt (rr HO1172.out))) (Kd.R_lt (rr HO1175.out))) (below_size (bz HB.out))); replace HO1172 := am (Kd.R_elder' (rr HO1172.out) (Kd.R_base ho15) hb); replace HO1175 := am (Kd.R_elder' (rr HO1175.out) (Kd.R_base ho15) hb); replace BK1165 := kb BK1165 hb; replace BK1166 := kb BK1166 hb; replace HB := sb HB hb; clear hb ho15) | ((with_reducible refine gate_dst (N := 26) rfl ?_); refine rlit Kd.string 9 ([(⟨#[97, 32, 33, 61, 32, 98]⟩ : ByteArray), (⟨#[110, 111, 116, 40, 97, 32, 61, 32, 98, 41]⟩ : ByteArray)] : List ByteArray) [.string (⟨#[97, 32, 33, 61, 32, 98]⟩ : ByteArray), .string (⟨#[110, 111, 116, 40, 97, 32, 61, 32, 98, 41]⟩ : ByteArray)] ?_ (Below.refl _ _) (Nat.le_refl _) (r1s (r1s (Reps.none _ _))); intro v1180 w16 ho17 hb hg_ hnew_; clear hg_ hnew_; (first | rw [← Ny1179.out] at ho17 | (simp only [Int.reduceToNat] at ho17; rw [← Ny1179.out] at ho17)); replace HO1169 := am (Kd.R_below (rr HO1169.out) hb); have HO1181 := am (Kd.R_lower (Kd.R_new' (Kd.R_new' (Kd.R_new' ho17 (Kd.R_lt (rr HO1172.out))) (Kd.R_lt (rr HO1175.out))) (Kd.R_lt (rr HO1178.out))) (below_size (bz HB.out))); replace HO1172 := am (Kd.R_elder' (rr HO1172.out) (Kd.R_base ho17) hb); replace HO1175 := am (Kd.R_elder' (rr HO1175.out) (Kd.R_base ho17) hb); replace HO1178 := am (Kd.R_elder' (rr HO1178.out) (Kd.R_base ho17) hb); replace BK1165 := kb BK1165 hb; replace BK1166 := kb BK1166 hb; replace HB := sb HB hb; clear hb ho17) | ((with_reducible refine gate_dst (N := 27) rfl ?_); refine rlit Kd.string 9 ([(⟨#[97, 32, 61, 32, 98]⟩ : ByteArray), (⟨#[98, 32, 61, 32, 97]⟩ : ByteArray)] : List ByteArray) [.string (⟨#[97, 32, 61, 32, 98]⟩ : ByteArray), .string (⟨#[98, 32, 61, 32, 97]⟩ : ByteArray)] ?_ (Below.refl _ _) (Nat.le_refl _) (r1s (r1s (Reps.none _ _))); intro v1183 w18 ho19 hb hg_ hnew_; clear hg_ hnew_; (first | rw [← Ny1182.out] at ho19 | (simp only [Int.reduceToNat] at ho19; rw [← Ny1182.out] at ho19)); replace HO1169 := am (Kd.R_below (rr HO1169.out) hb); have HO1184 := am (Kd.R_lower (Kd.R_new' (Kd.R_new' (Kd.R_new' (Kd.R_new' ho19 (Kd.R_lt (rr HO1172.out))) (Kd.R_lt (rr HO1175.out))) (Kd.R_lt (rr HO1178.out))) (Kd.R_lt (rr HO1181.out))) (below_size (bz HB.out))); replace HO1172 := am (Kd.R_elder' (rr HO1172.out) (Kd.R_base ho19) hb); replace HO1175 := am (Kd.R_elder' (rr HO1175.out) (Kd.R_base ho19) hb); replace HO1178 := am (Kd.R_elder' (rr HO1178.out) (Kd.R_base ho19) hb); replace HO1181 := am (Kd.R_elder' (rr HO1181.out) (Kd.R_base ho19) hb); replace BK1165 := kb BK1165 hb; replace BK1166 := kb BK1166 hb; replace HB := sb HB hb; clear hb ho19) | ((with_reducible refine gate_dst (N := 28) rfl ?_); refine rlit Kd.string 9 ([(⟨#[97, 32, 60, 32, 98]⟩ : ByteArray), (⟨#[110, 111, 116, 40, 110, 111, 116, 40, 97, 32, 60, 32, 98, 41, 41]⟩ : ByteArray)] : List ByteArray) [.string (⟨#[97, 32, 60, 32, 98]⟩ : ByteArray), .string (⟨#[110, 111, 116, 40, 110, 111, 116, 40, 97, 32, 60, 32, 98, 41, 41]⟩ : ByteArray)] ?_ (Below.refl _ _) (Nat.le_refl _) (r1s (r1s (Reps.none _ _))); intro v1186 w20 ho21 hb hg_ hnew_; clear hg_ hnew_; (first | rw [← Ny1185.out] at ho21 | (simp only [Int.reduceToNat] at ho21; rw [← Ny1185.out] at ho21)); replace HO1169 := am (Kd.R_below (rr HO1169.out) hb); have HO1187 := am (Kd.R_lower (Kd.R_new' (Kd.R_new' (Kd.R_new' (Kd.R_new' (Kd.R_new' ho21 (Kd.R_lt (rr HO1172.out))) (Kd.R_lt (rr HO1175.out))) (Kd.R_lt (rr HO1178.out))) (Kd.R_lt (rr HO1181.out))) (Kd.R_lt (rr HO1184.out))) (below_size (bz HB.out))); replace HO1172 := am (Kd.R_elder' (rr HO1172.out) (Kd.R_base ho21) hb); replace HO1175 := am (Kd.R_elder' (rr HO1175.out) (Kd.R_base ho21) hb); replace HO1178 := am (Kd.R_elder' (rr HO1178.out) (Kd.R_base ho21) hb); replace HO1181 := am (Kd.R_elder' (rr HO1181.out) (Kd.R_base ho21) hb); replace HO1184 := am (Kd.R_elder' (rr HO1184.out) (Kd.R_base ho21) hb); replace BK1165 := kb BK1165 hb; replace BK1166 := kb BK1166 hb; replace HB := sb HB hb; clear hb ho21; obtain ⟨Ao22, co22, eo22⟩ := Kd.R_slice HO1172.out; subst eo22; obtain ⟨Ao23, co23, eo23⟩ := Kd.R_slice HO1175.out; subst eo23; obtain ⟨Ao24, co24, eo24⟩ := Kd.R_slice HO1178.out; subst eo24; obtain ⟨Ao25, co25, eo25⟩ := Kd.R_slice HO1181.out; subst eo25; obtain ⟨Ao26, co26, eo26⟩ := Kd.R_slice HO1184.out; subst eo26; obtain ⟨Ao27, co27, eo27⟩ := Kd.R_slice HO1187.out; subst eo27) | ((with_reducible refine gate_dst (N := 29) rfl ?_); refine Kd.N_lit (Kd.slice 9 Kd.string) _ 41 ?hg (N' := 29) ?hd (xs := ([y1170, y1173, y1176, y1179, y1182, y1185] : List (List ByteArray))) (inner := [.slice Ao22 y1170.length co22, .slice Ao23 y1173.length co23, .slice Ao24 y1176.length co24, .slice Ao25 y1179.length co25, .slice Ao26 y1182.length co26, .slice Ao27 y1185.length co27]) (ok := (fun k_ => some k_ ≠ (v1168 : Value).ownBlock ∧ k_ ≠ gb1165 ∧ k_ ≠ gb1166)) (okp := (fun k_ => some k_ ≠ (v1168 : Value).ownBlock ∧ k_ ≠ gb1165 ∧ k_ ≠ gb1166)) ?hr ?hp (fun _ hk => hk) ((show ∀ k_, w20.heap.size ≤ k_ → (fun k_ => some k_ ≠ (v1168 : Value).ownBlock ∧ k_ ≠ gb1165 ∧ k_ ≠ gb1166) k_ from fun k_ hk => ⟨Kd.fresh' (Kd.R_lt (rr HO1169.out)) k_ hk, Kd.freshB (bk BK1165.out) k_ hk, Kd.freshB (bk BK1166.out) k_ hk⟩) _ (Nat.le_refl _)) (Below.refl _ _) (Nat.le_refl _) (by simp) ?_; (case hd => rfl); (case hg => rfl); (case hr => first | (go_simp; done) | (go_simp; rfl)); (case hp => exact (Reps.one (show Kd.FK (Kd.slice 9 Kd.string) _ _ y1170 [.slice Ao22 y1170.length co22] from (Kd.FK_slice_mk (Kd.R_reads' (Kd.R_mono (ok' := (fun k_ => some k_ ≠ (v1168 : Value).ownBlock ∧ k_ ≠ gb1165 ∧ k_ ≠ gb1166)) (Kd.R_types (Kd.R_types (Kd.R_apart' (HO1172.out) (Kd.R_typed HO1169.out) (by decide)) BK1165.out (by decide)) BK1166.out (by decide)) (fun k_ hk => ⟨hk.1.1.2, ⟨hk.1.2, hk.2⟩⟩))).2.1 (Kd.R_F (Kd.R_mono (ok' := (fun k_ => some k_ ≠ (v1168 : Value).ownBlock ∧ k_ ≠ gb1165 ∧ k_ ≠ gb1166)) (Kd.R_types (Kd.R_types (Kd.R_apart' (HO1172.out) (Kd.R_typed HO1169.out) (by decide)) BK1165.out (by decide)) BK1166.out (by decide)) (fun k_ hk => ⟨hk.1.1.2, ⟨hk.1.2, hk.2⟩⟩))))) (Reps.one (show Kd.FK (Kd.slice 9 Kd.string) _ _ y1173 [.slice Ao23 y1173.length co23] from (Kd.FK_slice_mk (Kd.R_reads' (Kd.R_mono (ok' := (fun k_ => some k_ ≠ (v1168 : Value).ownBlock ∧ k_ ≠ gb1165 ∧ k_ ≠ gb1166)) (Kd.R_types (Kd.R_types (Kd.R_apart' (HO1175.out) (Kd.R_typed HO1169.out) (by decide)) BK1165.out (by decide)) BK1166.out (by decide)) (fun k_ hk => ⟨hk.1.1.2, ⟨hk.1.2, hk.2⟩⟩))).2.1 (Kd.R_F (Kd.R_mono (ok' := (fun k_ => some k_ ≠ (v1168 : Value).ownBlock ∧ k_ ≠ gb1165 ∧ k_ ≠ gb1166)) (Kd.R_types (Kd.R_types (Kd.R_apart' (HO1175.out) (Kd.R_typed HO1169.out) (by decide)) BK1165.out (by decide)) BK1166.out (by decide)) (fun k_ hk => ⟨hk.1.1.2, ⟨hk.1.2, hk.2⟩⟩))))) (Reps.one (show Kd.FK (Kd.slice 9 Kd.string) _ _ y1176 [.slice Ao24 y1176.length co24] from (Kd.FK_slice_mk (Kd.R_reads' (Kd.R_mono (ok' := (fun k_ => some k_ ≠ (v1168 : Value).ownBlock ∧ k_ ≠ gb1165 ∧ k_ ≠ gb1166)) (Kd.R_types (Kd.R_types (Kd.R_apart' (HO1178.out) (Kd.R_typed HO1169.out) (by decide)) BK1165.out (by decide)) BK1166.out (by decide)) (fun k_ hk => ⟨hk.1.1.2, ⟨hk.1.2, hk.2⟩⟩))).2.1 (Kd.R_F (Kd.R_mono (ok' := (fun k_ => some k_ ≠ (v1168 : Value).ownBlock ∧ k_ ≠ gb1165 ∧ k_ ≠ gb1166)) (Kd.R_types (Kd.R_types (Kd.R_apart' (HO1178.out) (Kd.R_typed HO1169.out) (by decide)) BK1165.out (by decide)) BK1166.out (by decide)) (fun k_ hk => ⟨hk.1.1.2, ⟨hk.1.2, hk.2⟩⟩))))) (Reps.one (show Kd.FK (Kd.slice 9 Kd.string) _ _ y1179 [.slice Ao25 y1179.length co25] from (Kd.FK_slice_mk (Kd.R_reads' (Kd.R_mono (ok' := (fun k_ => some k_ ≠ (v1168 : Value).ownBlock ∧ k_ ≠ gb1165 ∧ k_ ≠ gb1166)) (Kd.R_types (Kd.R_types (Kd.R_apart' (HO1181.out) (Kd.R_typed HO1169.out) (by decide)) BK1165.out (by decide)) BK1166.out (by decide)) (fun k_ hk => ⟨hk.1.1.2, ⟨hk.1.2, hk.2⟩⟩))).2.1 (Kd.R_F (Kd.R_mono (ok' := (fun k_ => some k_ ≠ (v1168 : Value).ownBlock ∧ k_ ≠ gb1165 ∧ k_ ≠ gb1166)) (Kd.R_types (Kd.R_types (Kd.R_apart' (HO1181.out) (Kd.R_typed HO1169.out) (by decide)) BK1165.out (by decide)) BK1166.out (by decide)) (fun k_ hk => ⟨hk.1.1.2, ⟨hk.1.2, hk.2⟩⟩))))) (Reps.one (show Kd.FK (Kd.slice 9 Kd.string) _ _ y1182 [.slice Ao26 y1182.length co26] from (Kd.FK_slice_mk (Kd.R_reads' (Kd.R_mono (ok' := (fun k_ => some k_ ≠ (v1168 : Value).ownBlock ∧ k_ ≠ gb1165 ∧ k_ ≠ gb1166)) (Kd.R_types (Kd.R_types (Kd.R_apart' (HO1184.out) (Kd.R_typed HO1169.out) (by decide)) BK1165.out (by decide)) BK1166.out (by decide)) (fun k_ hk => ⟨hk.1.1.2, ⟨hk.1.2, hk.2⟩⟩))).2.1 (Kd.R_F (Kd.R_mono (ok' := (fun k_ => some k_ ≠ (v1168 : Value).ownBlock ∧ k_ ≠ gb1165 ∧ k_ ≠ gb1166)) (Kd.R_types (Kd.R_types (Kd.R_apart' (HO1184.out) (Kd.R_typed HO1169.out) (by decide)) BK1165.out (by decide)) BK1166.out (by decide)) (fun k_ hk => ⟨hk.1.1.2, ⟨hk.1.2, hk.2⟩⟩))))) (Reps.one (show Kd.FK (Kd.slice 9 Kd.string) _ _ y1185 [.slice Ao27 y1185.length co27] from (Kd.FK_slice_mk (Kd.R_reads' (Kd.R_mono (ok' := (fun k_ => some k_ ≠ (v1168 : Value).ownBlock ∧ k_ ≠ gb1165 ∧ k_ ≠ gb1166)) (Kd.R_types (Kd.R_types (Kd.R_apart' (HO1187.out) (Kd.R_typed HO1169.out) (by decide)) BK1165.out (by decide)) BK1166.out (by decide)) (fun k_ hk => ⟨hk.1.1.2, ⟨hk.1.2, hk.2⟩⟩))).2.1 (Kd.R_F (Kd.R_mono (ok' := (fun k_ => some k_ ≠ (v1168 : Value).ownBlock ∧ k_ ≠ gb1165 ∧ k_ ≠ gb1166)) (Kd.R_types (Kd.R_types (Kd.R_apart' (HO1187.out) (Kd.R_typed HO1169.out) (by decide)) BK1165.out (by decide)) BK1166.out (by decide)) (fun k_ hk => ⟨hk.1.1.2, ⟨hk.1.2, hk.2⟩⟩))))) (Reps.none _ _)))))))); intro v1189 w28 ho29 hb hg_ hnew_; clear hg_ hnew_; (first | rw [← Ny1188.out] at ho29 | (simp only [Int.reduceToNat] at ho29; rw [← Ny1188.out] at ho29)); replace HO1169 := am (Kd.R_below (rr HO1169.out) hb); have HO1190 := am (Kd.N_lower ho29 (below_size (bz HB.out))); replace BK1165 := kb BK1165 hb; replace BK1166 := kb BK1166 hb; replace HB := sb HB hb; clear HO1172 HO1175 HO1178 HO1181 HO1184 HO1187 hb ho29))
 (try simp only [Act.put, List.setIfInBounds_toArray, List.set_cons_succ, List.set_cons_zero])
 go_loopg [7] k (fun kq v7 w' => ∃ (x7_1 : Int), v7 = .int .i64 x7_1 ∧ Aside0 (soffitlaw11_CalcSides.l0 kq y1167 y1188 x7_1 = some r) ∧ Aside0 (kq ≤ k) ∧ Aside0 (Kd.R k27 27 w' w.heap.size (fun _ => True) v1168 y1167) ∧ Aside0 (Kd.N (Kd.slice 9 Kd.string) 41 w' w.heap.size (fun k_ => some k_ ≠ (v1168 : Value).ownBlock ∧ k_ ≠ gb1165 ∧ k_ ≠ gb1166) v1189 y1188) ∧ Aside0 (w'.heap[gb1165]? = some (.cells #[.int .i64 a0_0, .int .i64 a0_1, .int .i64 a0_2, .string a0_3, .int .i64 a0_4] 25 (0, 0))) ∧ Aside0 (w'.heap[gb1166]? = some (.cells #[.int .i64 a1_0, .int .i64 a1_1, .int .i64 a1_2, .string a1_3, .int .i64 a1_4] 25 (0, 0))) ∧ Aside0 (Below w.heap.size w w'))
 case atStart => exact ⟨(0), sz, H', ⟨Nat.le_refl _⟩, ⟨rr HO1169.out⟩, ⟨nn HO1190.out⟩, ⟨bk BK1165.out⟩, ⟨bk BK1166.out⟩, ⟨bz HB.out⟩⟩
 case round =>
  clear H'
  try clear c6; try clear Z6_0; try clear Z6_1; try clear Z6_2; try clear Z6_3; try clear Z6_4; try clear Z7_0; try clear Z7_1; try clear Z7_2; try clear Z7_3; try clear Z7_4; try clear F6_0; try clear F6_1; try clear F6_2; try clear F6_3; try clear F6_4; try clear F7_0; try clear F7_1; try clear F7_2; try clear F7_3; try clear F7_4
  obtain ⟨x7_1, rfl, HA, HK1, HO_5, HO_6, BK1165, BK1166, HB⟩ := hrel
  cases gk with
  | zero => exact absurd HA.out (by simp [soffitlaw11_CalcSides.l0])
  | succ k1 =>
   have H := HA.out
   clear HA
   simp only [soffitlaw11_CalcSides.l0] at H
   by_cases c30 : x7_1 < (y1188.length : Int)
   ·rw [if_pos c30] at H
    have c30b0 : decide (x7_1 < (y1188.length : Int)) = true := decide_eq_true c30
    clear c30
    by_cases c31 : 0 ≤ x7_1
    ·rw [if_pos c31] at H
     have c31b0 : decide (0 ≤ x7_1) = true := decide_eq_true c31
     clear c31
     by_cases c32 : 0 < ((rd_L6 y1188 x7_1).length : Int)
     ·rw [if_pos c32] at H
      have c32b0 : decide (0 < ((rd_L6 y1188 x7_1).length : Int)) = true := decide_eq_true c32
      have c32b1 : decide (0 < (rd_L6 y1188 x7_1).length) = true := decide_eq_true (by omega)
      clear c32
      replace H := obe10 H
      obtain ⟨t1194, t1195, t1196, t1197, t1198, t1199, t1200, t1201, t1204, t1205, A33, H⟩ := H
      by_cases c34 : 1 < ((rd_L6 y1188 x7_1).length : Int)
      ·rw [if_pos c34] at H
       have c34b0 : decide (1 < ((rd_L6 y1188 x7_1).length : Int)) = true := decide_eq_true c34
       have c34b1 : decide (1 < (rd_L6 y1188 x7_1).length) = true := decide_eq_true (by omega)
       clear c34
       replace H := obe10 H
       obtain ⟨t1209, t1210, t1211, t1212, t1213, t1214, t1215, t1216, t1219, t1220, A35, H⟩ := H
       replace H := obe6 H
       obtain ⟨t1222, t1223, t1224, t1225, t1226, t1227, A36, H⟩ := H
       replace H := obe6 H
       obtain ⟨t1229, t1230, t1231, t1232, t1233, t1234, A37, H⟩ := H
       have HC38 := am H
       clear H
       obtain ⟨Ao39, co39, eo39⟩ := Kd.N_slice HO_6.out
       subst eo39
       have p1192 : 0 ≤ (x7_1 : Int) := of_decide_eq_true tz
       have q1192 : x7_1 < (y1188.length : Int) := of_decide_eq_true tz
       obtain ⟨ad1192, A1192_0, c1192_0, e1192, hx1192_0, hl1192_0, hi1192_0⟩ := at_L6 (Kd.N_reads' HO_6.out).2.2 x7_1 p1192 q1192
       cases e1192
       obtain ⟨ce1192, hce1192, hMe1192, hcc1192⟩ := Kd.N_get HO_6.out [] x7_1 p1192 (by first | exact q1192 | exact of_decide_eq_true tz | (have e_ := (Kd.N_reads' HO_6.out).1; omega))
       obtain ⟨ua1192_0, uc1192_0, rfl, ul1192_0, ge1192_0⟩ := Kd.FK_slice_open hMe1192
       have hv1192_0 := hcc1192 0 _ rfl
       rw [Nat.add_zero, show ((Kd.slice 9 Kd.string)).sz = 1 from rfl, Nat.mul_one] at hv1192_0
       replace hv1192_0 := Option.some.inj (hv1192_0.symm.trans hx1192_0)
       injection hv1192_0 with hva_ hvn_ hvc_
       rw [hva_] at ge1192_0
       rw [hvc_] at ul1192_0
       have HL1192_0 := am (show Kd.V Kd.string 9 _ w.heap.size _ _ (rd_L6 y1188 x7_1) from Kd.V_mk ul1192_0 ge1192_0)
       clear hva_ hvn_ hvc_ ge1192_0 ul1192_0 hcc1192 hce1192
       have HR1192_0 := am hi1192_0
       have HC1192_0 := am hl1192_0
       clear hi1192_0 hl1192_0
       replace p1192 := eq_true p1192
       replace q1192 := eq_true q1192
       have p1193 : 0 ≤ (0 : Int) := (by omega)
       have q1193 : 0 < ((rd_L6 y1188 x7_1).length : Int) := of_decide_eq_true tz
       obtain ⟨ad1193, e1193, hx1193_0⟩ := Kd.at_string (by repeat (first | (with_reducible exact HR1192_0.out) | (with_reducible refine Kd.C_alloc ?_ _) | (with_reducible refine Kd.C_drewN ?_ _) | (with_reducible refine Kd.C_drew ?_) | exact HR1192_0.out)) 0 p1193 q1193
       cases e1193
       have qi1193 : (0 < (rd_L6 y1188 x7_1).length) = True := eq_true (by omega)
       (try rw [show ((0 : Int)).toNat = 0 from rfl] at hx1193_0)
       (try rw [Addr.add_zero'] at hx1193_0)
       replace p1193 := eq_true p1193
       replace q1193 := eq_true q1193
       go_upto_region 10 with (first | ((with_reducible refine gate_callee (f := 12) rfl ?_); refine gl_ (some 43) Tryz.func12 (by kernel_rfl) #[.string (rdOf ByteArray.empty (rd_L6 y1188 x7_1) 0)] rfl ?_; (with_reducible refine (expr_Parse.calls k1 (rdOf ByteArray.empty (rd_L6 y1188 x7_1) 0) t1194 t1195 t1196 t1197 t1198 t1199 t1200 t1201 t1204 t1205 _ ?side1 A33.out).mono ?_); (case side1 => exact tabs_of HT.out (bz HB.out)); rintro e w40 ⟨v1202, rfl, ho0, hb⟩; refine ⟨_, rfl, ?_⟩; replace HL1192_0 := am (Kd.V_below (vv HL1192_0.out) hb); have HO1203 := am (Kd.V_lower (Kd.V_mono (ok' := fun k_ => some k_ ≠ (v1168 : Value).ownBlock ∧ some k_ ≠ (.slice (some ad1192) y1188.length co39 : Value).ownBlock ∧ k_ ≠ gb1165 ∧ k_ ≠ gb1166) ho0 (fun k_ hk_ => ⟨(Kd.fresh' (Kd.R_lt (rr HO_5.out)) k_ hk_), (Kd.fresh' (Kd.N_lt (nn HO_6.out)) k_ hk_), (Kd.freshB (bk BK1165.out) k_ hk_), (Kd.freshB (bk BK1166.out) k_ hk_)⟩)) (below_size (bz HB.out))); replace HO_5 := am (Kd.R_below (rr HO_5.out) hb); replace HO_6 := am (Kd.N_below (nn HO_6.out) hb); replace BK1165 := kb BK1165 hb; replace BK1166 := kb BK1166 hb; replace HR1192_0 := am (Kd.C_below (by repeat (first | (with_reducible exact HR1192_0.out) | (with_reducible refine Kd.C_alloc ?_ _) | (with_reducible refine Kd.C_drewN ?_ _) | (with_reducible refine Kd.C_drew ?_) | exact HR1192_0.out)) hb); replace HB := sb HB hb; clear hb ho0) | ((with_reducible refine gate_dst (N := 8) rfl ?_); refine bev (#[.int .i64 0, .int .i64 0, .int .i64 0, .int .i64 0, .string (⟨#[]⟩ : ByteArray), .int .i64 0, .string (⟨#[]⟩ : ByteArray), .slice none 0 0]) 31 ?_; intro gb1206 hg w41 hbox hb; replace HO_5 := am (Kd.R_below (rr HO_5.out) hb); replace HO_6 := am (Kd.N_below (Kd.N_elderB (nn HO_6.out) gb1206 (Nat.le_of_eq hg.symm)) hb); replace HL1192_0 := am (Kd.V_below (Kd.V_elderB (vv HL1192_0.out) gb1206 (Nat.le_of_eq hg.symm)) hb); replace HO1203 := am (Kd.V_below (Kd.V_elderB (vv HO1203.out) gb1206 (Nat.le_of_eq hg.symm)) hb); replace HR1192_0 := am (Kd.C_below (by repeat (first | (with_reducible exact HR1192_0.out) | (with_reducible refine Kd.C_alloc ?_ _) | (with_reducible refine Kd.C_drewN ?_ _) | (with_reducible refine Kd.C_drew ?_) | exact HR1192_0.out)) hb); have BK1206 := am (hbox); have GW1206 := gs hg HB; have GE1206 := GW1206; replace HB := sb HB hb; have NB1165_1206 := na hg BK1165; have NB1206_1165 := nb hg BK1165; replace BK1165 := kb BK1165 hb; have NB1166_1206 := na hg BK1166; have NB1206_1166 := nb hg BK1166; replace BK1166 := kb BK1166 hb; clear hb hbox hg; have hnb42 := NB1206_1165.out; have hnc42 := NB1165_1206.out; have hnb43 := NB1206_1166.out; have hnc43 := NB1166_1206.out; obtain ⟨Z44_0, Z44_1, Z44_2, Z44_3, Z44_4, Z44_5, Z44_6, Z44_7, F44_0, F44_1, F44_2, F44_3, F44_4, F44_5, F44_6, F44_7⟩ := cz8 BK1206.out; obtain ⟨Ao45, co45, eo45⟩ := Kd.V_slice HO1203.out; subst eo45) | ((with_reducible refine gate_store (t := 31) (p := 8) rfl ?_); refine store_event (t := 31) (p := 8) (v := ?vo_w46) (w1 := ((((((((w41.setCell ⟨gb1206, 0, none⟩ (.int .i64 t1194)).setCell ⟨gb1206, 1, none⟩ (.int .i64 t1195)).setCell ⟨gb1206, 2, none⟩ (.int .i64 t1196)).setCell ⟨gb1206, 3, none⟩ (.int .i64 t1197)).setCell ⟨gb1206, 4, none⟩ (.string t1198)).setCell ⟨gb1206, 5, none⟩ (.int .i64 t1199)).setCell ⟨gb1206, 6, none⟩ (.string t1200)).setCell ⟨gb1206, 7, none⟩ (.slice Ao45 t1201.length co45))) ?hg ?ho ?hn ?hr ?_; (case ho => rfl); (case hg => rfl); (case hn => rfl); (case hr => first | (go_simp; done) | (go_simp; rfl)); intro w46 hw; have n0_ : Aside0 (Kd.R k27 27 w46 w.heap.size (fun _ => True) v1168 y1167) := ⟨(by rw [hw]; exact (vfR (Kd.R_types HO_5.out BK1206.out (by decide))))⟩; have n1_ : Aside0 (Kd.N (Kd.slice 9 Kd.string) 41 w46 w.heap.size (fun k_ => some k_ ≠ (v1168 : Value).ownBlock ∧ k_ ≠ gb1165 ∧ k_ ≠ gb1166 ∧ k_ ≠ gb1206) (.slice (some ad1192) y1188.length co39) y1188) := ⟨(by rw [hw]; exact (vfN HO_6.out))⟩; have n2_ : Aside0 (Kd.V Kd.string 9 w46 w.heap.size (fun k_ => some k_ ≠ (v1168 : Value).ownBlock ∧ some k_ ≠ (.slice (some ad1192) y1188.length co39 : Value).ownBlock ∧ k_ ≠ gb1165 ∧ k_ ≠ gb1166 ∧ k_ ≠ gb1206) (.slice (some ad1193) (rd_L6 y1188 x7_1).length c1192_0) (rd_L6 y1188 x7_1)) := ⟨(by rw [hw]; exact (vfV HL1192_0.out))⟩; have n3_ : Aside0 (Kd.V k31 31 w46 w.heap.size (fun k_ => some k_ ≠ (v1168 : Value).ownBlock ∧ some k_ ≠ (.slice (some ad1192) y1188.length co39 : Value).ownBlock ∧ k_ ≠ gb1165 ∧ k_ ≠ gb1166 ∧ k_ ≠ gb1206) (.slice Ao45 t1201.length co45) t1201) := ⟨(by rw [hw]; exact (vfV HO1203.out))⟩; have n4_ : Aside0 (w46.heap[gb1165]? = some (.cells #[.int .i64 a0_0, .int .i64 a0_1, .int .i64 a0_2, .string a0_3, .int .i64 a0_4] 25 (0, 0))) := ⟨(by rw [hw]; exact (bp BK1165.out))⟩; have n5_ : Aside0 (w46.heap[gb1166]? = some (.cells #[.int .i64 a1_0, .int .i64 a1_1, .int .i64 a1_2, .string a1_3, .int .i64 a1_4] 25 (0, 0))) := ⟨(by rw [hw]; exact (bp BK1166.out))⟩; have n6_ : Aside0 (w46.heap[gb1206]? = some (.cells #[.int .i64 t1194, .int .i64 t1195, .int .i64 t1196, .int .i64 t1197, .string t1198, .int .i64 t1199, .string t1200, .slice Ao45 t1201.length co45] 31 (0, 0))) := ⟨(by rw [hw]; exact (bp BK1206.out))⟩; have n7_ : Aside0 (Below w.heap.size w w46) := ⟨(by rw [hw]; exact (bz HB.out))⟩; clear hw HO_5 HO_6 HL1192_0 HO1203 BK1165 BK1166 BK1206 HB; have HO_5 := n0_; have HO_6 := n1_; have HL1192_0 := n2_; have HO1203 := n3_; have BK1165 := n4_; have BK1166 := n5_; have BK1206 := n6_; have HB := n7_; clear n0_ n1_ n2_ n3_ n4_ n5_ n6_ n7_; replace HR1192_0 := am (Kd.V_reads' HL1192_0.out).2.2; have p1207 : 0 ≤ (x7_1 : Int) := of_decide_eq_true tz; have q1207 : x7_1 < (y1188.length : Int) := of_decide_eq_true tz; obtain ⟨ad1207, A1207_0, c1207_0, e1207, hx1207_0, hl1207_0, hi1207_0⟩ := at_L6 (Kd.N_reads' HO_6.out).2.2 x7_1 p1207 q1207; obtain rfl : ad1192 = ad1207 := (by injection e1207); obtain ⟨ce1207, hce1207, hMe1207, hcc1207⟩ := Kd.N_get HO_6.out [] x7_1 p1207 (by first | exact q1207 | exact of_decide_eq_true tz | (have e_ := (Kd.N_reads' HO_6.out).1; omega)); obtain ⟨ua1207_0, uc1207_0, rfl, ul1207_0, ge1207_0⟩ := Kd.FK_slice_open hMe1207; have hv1207_0 := hcc1207 0 _ rfl; rw [Nat.add_zero, show ((Kd.slice 9 Kd.string)).sz = 1 from rfl, Nat.mul_one] at hv1207_0; replace hv1207_0 := Option.some.inj (hv1207_0.symm.trans hx1207_0); injection hv1207_0 with hva_ hvn_ hvc_; rw [hva_] at ge1207_0; rw [hvc_] at ul1207_0; have HL1207_0 := am (show Kd.V Kd.string 9 _ w.heap.size _ _ (rd_L6 y1188 x7_1) from Kd.V_mk ul1207_0 ge1207_0); clear hva_ hvn_ hvc_ ge1207_0 ul1207_0 hcc1207 hce1207; have HR1207_0 := am hi1207_0; have HC1207_0 := am hl1207_0; clear hi1207_0 hl1207_0; replace p1207 := eq_true p1207; replace q1207 := eq_true q1207; have p1208 : 0 ≤ (1 : Int) := (by omega); have q1208 : 1 < ((rd_L6 y1188 x7_1).length : Int) := of_decide_eq_true tz; obtain ⟨ad1208, e1208, hx1208_0⟩ := Kd.at_string (by repeat (first | (with_reducible exact HR1207_0.out) | (with_reducible refine Kd.C_alloc ?_ _) | (with_reducible refine Kd.C_drewN ?_ _) | (with_reducible refine Kd.C_drew ?_) | exact HR1207_0.out)) 1 p1208 q1208; cases e1208; (try simp only [show (1 : Int).toNat = 1 from rfl, Nat.reduceMul, Nat.reduceEqDiff, Go.Addr.add, ↓reduceIte] at hx1208_0); have qi1208 : (1 < (rd_L6 y1188 x7_1).length) = True := eq_true (by omega); (try rw [show ((1 : Int)).toNat = 1 from rfl] at hx1208_0); replace p1208 := eq_true p1208; replace q1208 := eq_true q1208) | ((with_reducible refine gate_callee (f := 12) rfl ?_); refine gl_ (some 54) Tryz.func12 (by kernel_rfl) #[.string (rdOf ByteArray.empty (rd_L6 y1188 x7_1) 1)] rfl ?_; (with_reducible refine (expr_Parse.calls k1 (rdOf ByteArray.empty (rd_L6 y1188 x7_1) 1) t1209 t1210 t1211 t1212 t1213 t1214 t1215 t1216 t1219 t1220 _ ?side1 A35.out).mono ?_); (case side1 => exact tabs_of HT.out (bz HB.out)); rintro e w47 ⟨v1217, rfl, ho0, hb⟩; refine ⟨_, rfl, ?_⟩; replace HL1192_0 := am (Kd.V_below (vv HL1192_0.out) hb); replace HO1203 := am (Kd.V_below (vv HO1203.out) hb); replace HL1207_0 := am (Kd.V_below (vv HL1207_0.out) hb); have HO1218 := am (Kd.V_lower (Kd.V_mono (ok' := fun k_ => some k_ ≠ (v1168 : Value).ownBlock ∧ some k_ ≠ (.slice (some ad1192) y1188.length co39 : Value).ownBlock ∧ k_ ≠ gb1165 ∧ k_ ≠ gb1166 ∧ k_ ≠ gb1206) ho0 (fun k_ hk_ => ⟨(Kd.fresh' (Kd.R_lt (rr HO_5.out)) k_ hk_), (Kd.fresh' (Kd.N_lt (nn HO_6.out)) k_ hk_), (Kd.freshB (bk BK1165.out) k_ hk_), (Kd.freshB (bk BK1166.out) k_ hk_), (Kd.freshB (bk BK1206.out) k_ hk_)⟩)) (below_size (bz HB.out))); replace HO_5 := am (Kd.R_below (rr HO_5.out) hb); replace HO_6 := am (Kd.N_below (nn HO_6.out) hb); replace BK1165 := kb BK1165 hb; replace BK1166 := kb BK1166 hb; replace HR1192_0 := am (Kd.C_below (by repeat (first | (with_reducible exact HR1192_0.out) | (with_reducible refine Kd.C_alloc ?_ _) | (with_reducible refine Kd.C_drewN ?_ _) | (with_reducible refine Kd.C_drew ?_) | exact HR1192_0.out)) hb); replace BK1206 := kb BK1206 hb; replace HR1207_0 := am (Kd.C_below (by repeat (first | (with_reducible exact HR1207_0.out) | (with_reducible refine Kd.C_alloc ?_ _) | (with_reducible refine Kd.C_drewN ?_ _) | (with_reducible refine Kd.C_drew ?_) | exact HR1207_0.out)) hb); replace HB := sb HB hb; clear hb ho0) | ((with_reducible refine gate_dst (N := 11) rfl ?_); refine bev (#[.int .i64 0, .int .i64 0, .int .i64 0, .int .i64 0, .string (⟨#[]⟩ : ByteArray), .int .i64 0, .string (⟨#[]⟩ : ByteArray), .slice none 0 0]) 31 ?_; intro gb1221 hg w48 hbox hb; replace HO_5 := am (Kd.R_below (rr HO_5.out) hb); replace HO_6 := am (Kd.N_below (Kd.N_elderB (nn HO_6.out) gb1221 (Nat.le_of_eq hg.symm)) hb); replace HL1192_0 := am (Kd.V_below (Kd.V_elderB (vv HL1192_0.out) gb1221 (Nat.le_of_eq hg.symm)) hb); replace HO1203 := am (Kd.V_below (Kd.V_elderB (vv HO1203.out) gb1221 (Nat.le_of_eq hg.symm)) hb); replace HL1207_0 := am (Kd.V_below (Kd.V_elderB (vv HL1207_0.out) gb1221 (Nat.le_of_eq hg.symm)) hb); replace HO1218 := am (Kd.V_below (Kd.V_elderB (vv HO1218.out) gb1221 (Nat.le_of_eq hg.symm)) hb); replace HR1192_0 := am (Kd.C_below (by repeat (first | (with_reducible exact HR1192_0.out) | (with_reducible refine Kd.C_alloc ?_ _) | (with_reducible refine Kd.C_drewN ?_ _) | (with_reducible refine Kd.C_drew ?_) | exact HR1192_0.out)) hb); replace HR1207_0 := am (Kd.C_below (by repeat (first | (with_reducible exact HR1207_0.out) | (with_reducible refine Kd.C_alloc ?_ _) | (with_reducible refine Kd.C_drewN ?_ _) | (with_reducible refine Kd.C_drew ?_) | exact HR1207_0.out)) hb); have BK1221 := am (hbox); have GW1221 := gs hg HB; have GE1221 := GW1221; replace HB := sb HB hb; have NB1165_1221 := na hg BK1165; have NB1221_1165 := nb hg BK1165; replace BK1165 := kb BK1165 hb; have NB1166_1221 := na hg BK1166; have NB1221_1166 := nb hg BK1166; replace BK1166 := kb BK1166 hb; have NB1206_1221 := na hg BK1206; have NB1221_1206 := nb hg BK1206; replace BK1206 := kb BK1206 hb; clear hb hbox hg; have hnb49 := NB1221_1165.out; have hnc49 := NB1165_1221.out; have hnb50 := NB1221_1166.out; have hnc50 := NB1166_1221.out; have hnb51 := NB1221_1206.out; have hnc51 := NB1206_1221.out; obtain ⟨Z52_0, Z52_1, Z52_2, Z52_3, Z52_4, Z52_5, Z52_6, Z52_7, F52_0, F52_1, F52_2, F52_3, F52_4, F52_5, F52_6, F52_7⟩ := cz8 BK1221.out; obtain ⟨Ao53, co53, eo53⟩ := Kd.V_slice HO1218.out; subst eo53; obtain ⟨Z54_0, Z54_1, Z54_2, Z54_3, Z54_4, Z54_5, Z54_6, Z54_7, F54_0, F54_1, F54_2, F54_3, F54_4, F54_5, F54_6, F54_7⟩ := cz8 BK1206.out; obtain ⟨Ao55, co55, eo55⟩ := Kd.R_slice HO_5.out; subst eo55) | ((with_reducible refine gate_callee (f := 13) rfl ?_); refine gl_ (some 61) Tryz.func13 (by kernel_rfl) #[.agg #[.int .i64 t1194, .int .i64 t1195, .int .i64 t1196, .int .i64 t1197, .string t1198, .int .i64 t1199, .string t1200, .slice Ao45 t1201.length co45], .slice Ao55 y1167.length co55] rfl ?_; (with_reducible refine (calc_Eval.calls k1 t1194 t1195 t1196 t1197 t1198 t1199 t1200 _ _ t1201 _ _ y1167 t1222 t1223 t1224 t1225 t1226 t1227 _ ?side1 ?side2 ?side3 ?side4 ?side5 A36.out).mono ?_); (case side1 => refine (Kd.V_reads' (e := 31) (base := w.heap.size) (ok := fun k_ => ((some k_ ≠ (.slice Ao55 y1167.length co55 : Value).ownBlock ∧ (some k_ ≠ (.slice (some ad1192) y1188.length co39 : Value).ownBlock ∧ (k_ ≠ gb1165 ∧ (k_ ≠ gb1166 ∧ k_ ≠ gb1206)))) ∧ k_ ≠ gb1221)) (n := t1201.length) (c := co45) ?_).2.2; exact (by (with_reducible repeat (first | apply Kd.V_alloc | apply Kd.V_drewN | apply Kd.V_drew)); exact (Kd.V_mono (Kd.V_far (p := ⟨gb1221, 7, none⟩) (Kd.V_far (p := ⟨gb1221, 6, none⟩) (Kd.V_far (p := ⟨gb1221, 5, none⟩) (Kd.V_far (p := ⟨gb1221, 4, none⟩) (Kd.V_far (p := ⟨gb1221, 3, none⟩) (Kd.V_far (p := ⟨gb1221, 2, none⟩) (Kd.V_far (p := ⟨gb1221, 1, none⟩) (Kd.V_far (p := ⟨gb1221, 0, none⟩) (Kd.V_mono HO1203.out (fun k_ hk => (⟨hk, hk.2⟩ : _ ∧ k_ ≠ gb1221))) (fun _ hk => hk.2) (.int .i64 t1209)) (fun _ hk => hk.2) (.int .i64 t1210)) (fun _ hk => hk.2) (.int .i64 t1211)) (fun _ hk => hk.2) (.int .i64 t1212)) (fun _ hk => hk.2) (.string t1213)) (fun _ hk => hk.2) (.int .i64 t1214)) (fun _ hk => hk.2) (.string t1215)) (fun _ hk => hk.2) (.slice Ao53 t1216.length co53)) (fun _ h_ => h_.1)))); (case side2 => exact (Kd.V_reads' HO1203.out).2.1); (case side3 => refine (Kd.R_reads' (e := 27) (base := w.heap.size) (ok := fun k_ => True) (n := y1167.length) (c := co55) ?_).2.2; exact (by (with_reducible repeat (first | apply Kd.R_alloc | apply Kd.R_drewN | apply Kd.R_drew)); exact (Kd.R_mono (Kd.R_far (p := ⟨gb1221, 7, none⟩) (Kd.R_far (p := ⟨gb1221, 6, none⟩) (Kd.R_far (p := ⟨gb1221, 5, none⟩) (Kd.R_far (p := ⟨gb1221, 4, none⟩) (Kd.R_far (p := ⟨gb1221, 3, none⟩) (Kd.R_far (p := ⟨gb1221, 2, none⟩) (Kd.R_far (p := ⟨gb1221, 1, none⟩) (Kd.R_far (p := ⟨gb1221, 0, none⟩) (Kd.R_types HO_5.out BK1221.out (by decide)) (fun _ hk => hk.2) (.int .i64 t1209)) (fun _ hk => hk.2) (.int .i64 t1210)) (fun _ hk => hk.2) (.int .i64 t1211)) (fun _ hk => hk.2) (.int .i64 t1212)) (fun _ hk => hk.2) (.string t1213)) (fun _ hk => hk.2) (.int .i64 t1214)) (fun _ hk => hk.2) (.string t1215)) (fun _ hk => hk.2) (.slice Ao53 t1216.length co53)) (fun _ h_ => h_.1)))); (case side4 => exact (Kd.R_reads' HO_5.out).2.1); (case side5 => exact tabs_of HT.out (bz HB.out)); rintro e w56 ⟨rfl, hb⟩; refine ⟨_, rfl, ?_⟩; replace HO_5 := am (Kd.R_below (by (with_reducible repeat (first | apply Kd.R_alloc | apply Kd.R_drewN | apply Kd.R_drew)); exact (Kd.R_mono (Kd.R_far (p := ⟨gb1221, 7, none⟩) (Kd.R_far (p := ⟨gb1221, 6, none⟩) (Kd.R_far (p := ⟨gb1221, 5, none⟩) (Kd.R_far (p := ⟨gb1221, 4, none⟩) (Kd.R_far (p := ⟨gb1221, 3, none⟩) (Kd.R_far (p := ⟨gb1221, 2, none⟩) (Kd.R_far (p := ⟨gb1221, 1, none⟩) (Kd.R_far (p := ⟨gb1221, 0, none⟩) (Kd.R_types HO_5.out BK1221.out (by decide)) (fun _ hk => hk.2) (.int .i64 t1209)) (fun _ hk => hk.2) (.int .i64 t1210)) (fun _ hk => hk.2) (.int .i64 t1211)) (fun _ hk => hk.2) (.int .i64 t1212)) (fun _ hk => hk.2) (.string t1213)) (fun _ hk => hk.2) (.int .i64 t1214)) (fun _ hk => hk.2) (.string t1215)) (fun _ hk => hk.2) (.slice Ao53 t1216.length co53)) (fun _ h_ => h_.1))) hb); replace HO_6 := am (Kd.N_below (by (with_reducible repeat (first | apply Kd.N_alloc | apply Kd.N_drewN | apply Kd.N_drew)); exact (Kd.N_mono (Kd.N_far (p := ⟨gb1221, 7, none⟩) (Kd.N_far (p := ⟨gb1221, 6, none⟩) (Kd.N_far (p := ⟨gb1221, 5, none⟩) (Kd.N_far (p := ⟨gb1221, 4, none⟩) (Kd.N_far (p := ⟨gb1221, 3, none⟩) (Kd.N_far (p := ⟨gb1221, 2, none⟩) (Kd.N_far (p := ⟨gb1221, 1, none⟩) (Kd.N_far (p := ⟨gb1221, 0, none⟩) (Kd.N_mono HO_6.out (fun k_ hk => (⟨hk, hk.2⟩ : _ ∧ k_ ≠ gb1221))) (fun _ hk => hk.2) (.int .i64 t1209)) (fun _ hk => hk.2) (.int .i64 t1210)) (fun _ hk => hk.2) (.int .i64 t1211)) (fun _ hk => hk.2) (.int .i64 t1212)) (fun _ hk => hk.2) (.string t1213)) (fun _ hk => hk.2) (.int .i64 t1214)) (fun _ hk => hk.2) (.string t1215)) (fun _ hk => hk.2) (.slice Ao53 t1216.length co53)) (fun _ h_ => h_.1))) hb); replace HO1203 := am (Kd.V_below (by (with_reducible repeat (first | apply Kd.V_alloc | apply Kd.V_drewN | apply Kd.V_drew)); exact (Kd.V_mono (Kd.V_far (p := ⟨gb1221, 7, none⟩) (Kd.V_far (p := ⟨gb1221, 6, none⟩) (Kd.V_far (p := ⟨gb1221, 5, none⟩) (Kd.V_far (p := ⟨gb1221, 4, none⟩) (Kd.V_far (p := ⟨gb1221, 3, none⟩) (Kd.V_far (p := ⟨gb1221, 2, none⟩) (Kd.V_far (p := ⟨gb1221, 1, none⟩) (Kd.V_far (p := ⟨gb1221, 0, none⟩) (Kd.V_mono HO1203.out (fun k_ hk => (⟨hk, hk.2⟩ : _ ∧ k_ ≠ gb1221))) (fun _ hk => hk.2) (.int .i64 t1209)) (fun _ hk => hk.2) (.int .i64 t1210)) (fun _ hk => hk.2) (.int .i64 t1211)) (fun _ hk => hk.2) (.int .i64 t1212)) (fun _ hk => hk.2) (.string t1213)) (fun _ hk => hk.2) (.int .i64 t1214)) (fun _ hk => hk.2) (.string t1215)) (fun _ hk => hk.2) (.slice Ao53 t1216.length co53)) (fun _ h_ => h_.1))) hb); replace HO1218 := am (Kd.V_below (by (with_reducible repeat (first | apply Kd.V_alloc | apply Kd.V_drewN | apply Kd.V_drew)); exact (Kd.V_mono (Kd.V_far (p := ⟨gb1221, 7, none⟩) (Kd.V_far (p := ⟨gb1221, 6, none⟩) (Kd.V_far (p := ⟨gb1221, 5, none⟩) (Kd.V_far (p := ⟨gb1221, 4, none⟩) (Kd.V_far (p := ⟨gb1221, 3, none⟩) (Kd.V_far (p := ⟨gb1221, 2, none⟩) (Kd.V_far (p := ⟨gb1221, 1, none⟩) (Kd.V_far (p := ⟨gb1221, 0, none⟩) (Kd.V_mono HO1218.out (fun k_ hk => (⟨hk, hk.2⟩ : _ ∧ k_ ≠ gb1221))) (fun _ hk => hk.2) (.int .i64 t1209)) (fun _ hk => hk.2) (.int .i64 t1210)) (fun _ hk => hk.2) (.int .i64 t1211)) (fun _ hk => hk.2) (.int .i64 t1212)) (fun _ hk => hk.2) (.string t1213)) (fun _ hk => hk.2) (.int .i64 t1214)) (fun _ hk => hk.2) (.string t1215)) (fun _ hk => hk.2) (.slice Ao53 t1216.length co53)) (fun _ h_ => h_.1))) hb); replace BK1165 := am (blk_below (g := gb1165) (o := .cells #[.int .i64 a0_0, .int .i64 a0_1, .int .i64 a0_2, .string a0_3, .int .i64 a0_4] 25 (0, 0)) (bp BK1165.out) hb); replace BK1166 := am (blk_below (g := gb1166) (o := .cells #[.int .i64 a1_0, .int .i64 a1_1, .int .i64 a1_2, .string a1_3, .int .i64 a1_4] 25 (0, 0)) (bp BK1166.out) hb); replace HR1192_0 := am (Kd.C_below ((Kd.V_reads' (by (with_reducible repeat (first | apply Kd.V_alloc | apply Kd.V_drewN | apply Kd.V_drew)); exact (Kd.V_mono (Kd.V_far (p := ⟨gb1221, 7, none⟩) (Kd.V_far (p := ⟨gb1221, 6, none⟩) (Kd.V_far (p := ⟨gb1221, 5, none⟩) (Kd.V_far (p := ⟨gb1221, 4, none⟩) (Kd.V_far (p := ⟨gb1221, 3, none⟩) (Kd.V_far (p := ⟨gb1221, 2, none⟩) (Kd.V_far (p := ⟨gb1221, 1, none⟩) (Kd.V_far (p := ⟨gb1221, 0, none⟩) (Kd.V_mono HL1192_0.out (fun k_ hk => (⟨hk, hk.2⟩ : _ ∧ k_ ≠ gb1221))) (fun _ hk => hk.2) (.int .i64 t1209)) (fun _ hk => hk.2) (.int .i64 t1210)) (fun _ hk => hk.2) (.int .i64 t1211)) (fun _ hk => hk.2) (.int .i64 t1212)) (fun _ hk => hk.2) (.string t1213)) (fun _ hk => hk.2) (.int .i64 t1214)) (fun _ hk => hk.2) (.string t1215)) (fun _ hk => hk.2) (.slice Ao53 t1216.length co53)) (fun _ h_ => h_.1)))).2.2) hb); replace HL1192_0 := am (Kd.V_below (by (with_reducible repeat (first | apply Kd.V_alloc | apply Kd.V_drewN | apply Kd.V_drew)); exact (Kd.V_mono (Kd.V_far (p := ⟨gb1221, 7, none⟩) (Kd.V_far (p := ⟨gb1221, 6, none⟩) (Kd.V_far (p := ⟨gb1221, 5, none⟩) (Kd.V_far (p := ⟨gb1221, 4, none⟩) (Kd.V_far (p := ⟨gb1221, 3, none⟩) (Kd.V_far (p := ⟨gb1221, 2, none⟩) (Kd.V_far (p := ⟨gb1221, 1, none⟩) (Kd.V_far (p := ⟨gb1221, 0, none⟩) (Kd.V_mono HL1192_0.out (fun k_ hk => (⟨hk, hk.2⟩ : _ ∧ k_ ≠ gb1221))) (fun _ hk => hk.2) (.int .i64 t1209)) (fun _ hk => hk.2) (.int .i64 t1210)) (fun _ hk => hk.2) (.int .i64 t1211)) (fun _ hk => hk.2) (.int .i64 t1212)) (fun _ hk => hk.2) (.string t1213)) (fun _ hk => hk.2) (.int .i64 t1214)) (fun _ hk => hk.2) (.string t1215)) (fun _ hk => hk.2) (.slice Ao53 t1216.length co53)) (fun _ h_ => h_.1))) hb); replace BK1206 := am (blk_below (g := gb1206) (o := .cells #[.int .i64 t1194, .int .i64 t1195, .int .i64 t1196, .int .i64 t1197, .string t1198, .int .i64 t1199, .string t1200, .slice Ao45 t1201.length co45] 31 (0, 0)) (bp BK1206.out) hb); replace HR1207_0 := am (Kd.C_below ((Kd.V_reads' (by (with_reducible repeat (first | apply Kd.V_alloc | apply Kd.V_drewN | apply Kd.V_drew)); exact (Kd.V_mono (Kd.V_far (p := ⟨gb1221, 7, none⟩) (Kd.V_far (p := ⟨gb1221, 6, none⟩) (Kd.V_far (p := ⟨gb1221, 5, none⟩) (Kd.V_far (p := ⟨gb1221, 4, none⟩) (Kd.V_far (p := ⟨gb1221, 3, none⟩) (Kd.V_far (p := ⟨gb1221, 2, none⟩) (Kd.V_far (p := ⟨gb1221, 1, none⟩) (Kd.V_far (p := ⟨gb1221, 0, none⟩) (Kd.V_mono HL1207_0.out (fun k_ hk => (⟨hk, hk.2⟩ : _ ∧ k_ ≠ gb1221))) (fun _ hk => hk.2) (.int .i64 t1209)) (fun _ hk => hk.2) (.int .i64 t1210)) (fun _ hk => hk.2) (.int .i64 t1211)) (fun _ hk => hk.2) (.int .i64 t1212)) (fun _ hk => hk.2) (.string t1213)) (fun _ hk => hk.2) (.int .i64 t1214)) (fun _ hk => hk.2) (.string t1215)) (fun _ hk => hk.2) (.slice Ao53 t1216.length co53)) (fun _ h_ => h_.1)))).2.2) hb); replace HL1207_0 := am (Kd.V_below (by (with_reducible repeat (first | apply Kd.V_alloc | apply Kd.V_drewN | apply Kd.V_drew)); exact (Kd.V_mono (Kd.V_far (p := ⟨gb1221, 7, none⟩) (Kd.V_far (p := ⟨gb1221, 6, none⟩) (Kd.V_far (p := ⟨gb1221, 5, none⟩) (Kd.V_far (p := ⟨gb1221, 4, none⟩) (Kd.V_far (p := ⟨gb1221, 3, none⟩) (Kd.V_far (p := ⟨gb1221, 2, none⟩) (Kd.V_far (p := ⟨gb1221, 1, none⟩) (Kd.V_far (p := ⟨gb1221, 0, none⟩) (Kd.V_mono HL1207_0.out (fun k_ hk => (⟨hk, hk.2⟩ : _ ∧ k_ ≠ gb1221))) (fun _ hk => hk.2) (.int .i64 t1209)) (fun _ hk => hk.2) (.int .i64 t1210)) (fun _ hk => hk.2) (.int .i64 t1211)) (fun _ hk => hk.2) (.int .i64 t1212)) (fun _ hk => hk.2) (.string t1213)) (fun _ hk => hk.2) (.int .i64 t1214)) (fun _ hk => hk.2) (.string t1215)) (fun _ hk => hk.2) (.slice Ao53 t1216.length co53)) (fun _ h_ => h_.1))) hb); replace BK1221 := am (blk_below (g := gb1221) (o := .cells #[.int .i64 t1209, .int .i64 t1210, .int .i64 t1211, .int .i64 t1212, .string t1213, .int .i64 t1214, .string t1215, .slice Ao53 t1216.length co53] 31 (0, 0)) (bp BK1221.out) hb); replace HB := sb HB hb; clear hb) | ((with_reducible refine gate_dst (N := 14) rfl ?_); refine bev (#[.int .i64 0, .int .i64 0, .int .i64 0, .string (⟨#[]⟩ : ByteArray), .int .i64 0]) 25 ?_; intro gb1228 hg w57 hbox hb; replace HO_5 := am (Kd.R_below (rr HO_5.out) hb); replace HO_6 := am (Kd.N_below (Kd.N_elderB (nn HO_6.out) gb1228 (Nat.le_of_eq hg.symm)) hb); replace HL1192_0 := am (Kd.V_below (Kd.V_elderB (vv HL1192_0.out) gb1228 (Nat.le_of_eq hg.symm)) hb); replace HO1203 := am (Kd.V_below (Kd.V_elderB (vv HO1203.out) gb1228 (Nat.le_of_eq hg.symm)) hb); replace HL1207_0 := am (Kd.V_below (Kd.V_elderB (vv HL1207_0.out) gb1228 (Nat.le_of_eq hg.symm)) hb); replace HO1218 := am (Kd.V_below (Kd.V_elderB (vv HO1218.out) gb1228 (Nat.le_of_eq hg.symm)) hb); replace HR1192_0 := am (Kd.C_below (by repeat (first | (with_reducible exact HR1192_0.out) | (with_reducible refine Kd.C_alloc ?_ _) | (with_reducible refine Kd.C_drewN ?_ _) | (with_reducible refine Kd.C_drew ?_) | exact HR1192_0.out)) hb); replace HR1207_0 := am (Kd.C_below (by repeat (first | (with_reducible exact HR1207_0.out) | (with_reducible refine Kd.C_alloc ?_ _) | (with_reducible refine Kd.C_drewN ?_ _) | (with_reducible refine Kd.C_drew ?_) | exact HR1207_0.out)) hb); have BK1228 := am (hbox); have GW1228 := gs hg HB; have GE1228 := GW1228; replace HB := sb HB hb; have NB1165_1228 := na hg BK1165; have NB1228_1165 := nb hg BK1165; replace BK1165 := kb BK1165 hb; have NB1166_1228 := na hg BK1166; have NB1228_1166 := nb hg BK1166; replace BK1166 := kb BK1166 hb; have NB1206_1228 := na hg BK1206; have NB1228_1206 := nb hg BK1206; replace BK1206 := kb BK1206 hb; have NB1221_1228 := na hg BK1221; have NB1228_1221 := nb hg BK1221; replace BK1221 := kb BK1221 hb; clear hb hbox hg; have hnb58 := NB1228_1165.out; have hnc58 := NB1165_1228.out; have hnb59 := NB1228_1166.out; have hnc59 := NB1166_1228.out; have hnb60 := NB1228_1206.out; have hnc60 := NB1206_1228.out; have hnb61 := NB1228_1221.out; have hnc61 := NB1221_1228.out; obtain ⟨Z62_0, Z62_1, Z62_2, Z62_3, Z62_4, F62_0, F62_1, F62_2, F62_3, F62_4⟩ := cz5 BK1228.out; obtain ⟨Z63_0, Z63_1, Z63_2, Z63_3, Z63_4, Z63_5, Z63_6, Z63_7, F63_0, F63_1, F63_2, F63_3, F63_4, F63_5, F63_6, F63_7⟩ := cz8 BK1221.out) | ((with_reducible refine gate_callee (f := 13) rfl ?_); refine gl_ (some 67) Tryz.func13 (by kernel_rfl) #[.agg #[.int .i64 t1209, .int .i64 t1210, .int .i64 t1211, .int .i64 t1212, .string t1213, .int .i64 t1214, .string t1215, .slice Ao53 t1216.length co53], .slice Ao55 y1167.length co55] rfl ?_; (with_reducible refine (calc_Eval.calls k1 t1209 t1210 t1211 t1212 t1213 t1214 t1215 _ _ t1216 _ _ y1167 t1229 t1230 t1231 t1232 t1233 t1234 _ ?side1 ?side2 ?side3 ?side4 ?side5 A37.out).mono ?_); (case side1 => refine (Kd.V_reads' (e := 31) (base := w.heap.size) (ok := fun k_ => (((some k_ ≠ (.slice Ao55 y1167.length co55 : Value).ownBlock ∧ (some k_ ≠ (.slice (some ad1192) y1188.length co39 : Value).ownBlock ∧ (k_ ≠ gb1165 ∧ (k_ ≠ gb1166 ∧ k_ ≠ gb1206)))) ∧ k_ ≠ gb1221) ∧ k_ ≠ gb1228)) (n := t1216.length) (c := co53) ?_).2.2; exact (by (with_reducible repeat (first | apply Kd.V_alloc | apply Kd.V_drewN | apply Kd.V_drew)); exact (Kd.V_mono (Kd.V_far (p := ⟨gb1228, 4, none⟩) (Kd.V_far (p := ⟨gb1228, 3, none⟩) (Kd.V_far (p := ⟨gb1228, 2, none⟩) (Kd.V_far (p := ⟨gb1228, 1, none⟩) (Kd.V_far (p := ⟨gb1228, 0, none⟩) (Kd.V_mono HO1218.out (fun k_ hk => (⟨hk, hk.2⟩ : _ ∧ k_ ≠ gb1228))) (fun _ hk => hk.2) (.int .i64 t1222)) (fun _ hk => hk.2) (.int .i64 t1223)) (fun _ hk => hk.2) (.int .i64 t1224)) (fun _ hk => hk.2) (.string t1225)) (fun _ hk => hk.2) (.int .i64 t1226)) (fun _ h_ => h_.1)))); (case side2 => exact (Kd.V_reads' HO1218.out).2.1); (case side3 => refine (Kd.R_reads' (e := 27) (base := w.heap.size) (ok := fun k_ => True) (n := y1167.length) (c := co55) ?_).2.2; exact (by (with_reducible repeat (first | apply Kd.R_alloc | apply Kd.R_drewN | apply Kd.R_drew)); exact (Kd.R_mono (Kd.R_far (p := ⟨gb1228, 4, none⟩) (Kd.R_far (p := ⟨gb1228, 3, none⟩) (Kd.R_far (p := ⟨gb1228, 2, none⟩) (Kd.R_far (p := ⟨gb1228, 1, none⟩) (Kd.R_far (p := ⟨gb1228, 0, none⟩) (Kd.R_types HO_5.out BK1228.out (by decide)) (fun _ hk => hk.2) (.int .i64 t1222)) (fun _ hk => hk.2) (.int .i64 t1223)) (fun _ hk => hk.2) (.int .i64 t1224)) (fun _ hk => hk.2) (.string t1225)) (fun _ hk => hk.2) (.int .i64 t1226)) (fun _ h_ => h_.1)))); (case side4 => exact (Kd.R_reads' HO_5.out).2.1); (case side5 => exact tabs_of HT.out (bz HB.out)); rintro e w64 ⟨rfl, hb⟩; refine ⟨_, rfl, ?_⟩; replace HO_5 := am (Kd.R_below (by (with_reducible repeat (first | apply Kd.R_alloc | apply Kd.R_drewN | apply Kd.R_drew)); exact (Kd.R_mono (Kd.R_far (p := ⟨gb1228, 4, none⟩) (Kd.R_far (p := ⟨gb1228, 3, none⟩) (Kd.R_far (p := ⟨gb1228, 2, none⟩) (Kd.R_far (p := ⟨gb1228, 1, none⟩) (Kd.R_far (p := ⟨gb1228, 0, none⟩) (Kd.R_types HO_5.out BK1228.out (by decide)) (fun _ hk => hk.2) (.int .i64 t1222)) (fun _ hk => hk.2) (.int .i64 t1223)) (fun _ hk => hk.2) (.int .i64 t1224)) (fun _ hk => hk.2) (.string t1225)) (fun _ hk => hk.2) (.int .i64 t1226)) (fun _ h_ => h_.1))) hb); replace HO_6 := am (Kd.N_below (by (with_reducible repeat (first | apply Kd.N_alloc | apply Kd.N_drewN | apply Kd.N_drew)); exact (Kd.N_mono (Kd.N_far (p := ⟨gb1228, 4, none⟩) (Kd.N_far (p := ⟨gb1228, 3, none⟩) (Kd.N_far (p := ⟨gb1228, 2, none⟩) (Kd.N_far (p := ⟨gb1228, 1, none⟩) (Kd.N_far (p := ⟨gb1228, 0, none⟩) (Kd.N_mono HO_6.out (fun k_ hk => (⟨hk, hk.2⟩ : _ ∧ k_ ≠ gb1228))) (fun _ hk => hk.2) (.int .i64 t1222)) (fun _ hk => hk.2) (.int .i64 t1223)) (fun _ hk => hk.2) (.int .i64 t1224)) (fun _ hk => hk.2) (.string t1225)) (fun _ hk => hk.2) (.int .i64 t1226)) (fun _ h_ => h_.1))) hb); replace HO1203 := am (Kd.V_below (by (with_reducible repeat (first | apply Kd.V_alloc | apply Kd.V_drewN | apply Kd.V_drew)); exact (Kd.V_mono (Kd.V_far (p := ⟨gb1228, 4, none⟩) (Kd.V_far (p := ⟨gb1228, 3, none⟩) (Kd.V_far (p := ⟨gb1228, 2, none⟩) (Kd.V_far (p := ⟨gb1228, 1, none⟩) (Kd.V_far (p := ⟨gb1228, 0, none⟩) (Kd.V_mono HO1203.out (fun k_ hk => (⟨hk, hk.2⟩ : _ ∧ k_ ≠ gb1228))) (fun _ hk => hk.2) (.int .i64 t1222)) (fun _ hk => hk.2) (.int .i64 t1223)) (fun _ hk => hk.2) (.int .i64 t1224)) (fun _ hk => hk.2) (.string t1225)) (fun _ hk => hk.2) (.int .i64 t1226)) (fun _ h_ => h_.1))) hb); replace HO1218 := am (Kd.V_below (by (with_reducible repeat (first | apply Kd.V_alloc | apply Kd.V_drewN | apply Kd.V_drew)); exact (Kd.V_mono (Kd.V_far (p := ⟨gb1228, 4, none⟩) (Kd.V_far (p := ⟨gb1228, 3, none⟩) (Kd.V_far (p := ⟨gb1228, 2, none⟩) (Kd.V_far (p := ⟨gb1228, 1, none⟩) (Kd.V_far (p := ⟨gb1228, 0, none⟩) (Kd.V_mono HO1218.out (fun k_ hk => (⟨hk, hk.2⟩ : _ ∧ k_ ≠ gb1228))) (fun _ hk => hk.2) (.int .i64 t1222)) (fun _ hk => hk.2) (.int .i64 t1223)) (fun _ hk => hk.2) (.int .i64 t1224)) (fun _ hk => hk.2) (.string t1225)) (fun _ hk => hk.2) (.int .i64 t1226)) (fun _ h_ => h_.1))) hb); replace BK1165 := am (blk_below (g := gb1165) (o := .cells #[.int .i64 a0_0, .int .i64 a0_1, .int .i64 a0_2, .string a0_3, .int .i64 a0_4] 25 (0, 0)) (bp BK1165.out) hb); replace BK1166 := am (blk_below (g := gb1166) (o := .cells #[.int .i64 a1_0, .int .i64 a1_1, .int .i64 a1_2, .string a1_3, .int .i64 a1_4] 25 (0, 0)) (bp BK1166.out) hb); replace HR1192_0 := am (Kd.C_below ((Kd.V_reads' (by (with_reducible repeat (first | apply Kd.V_alloc | apply Kd.V_drewN | apply Kd.V_drew)); exact (Kd.V_mono (Kd.V_far (p := ⟨gb1228, 4, none⟩) (Kd.V_far (p := ⟨gb1228, 3, none⟩) (Kd.V_far (p := ⟨gb1228, 2, none⟩) (Kd.V_far (p := ⟨gb1228, 1, none⟩) (Kd.V_far (p := ⟨gb1228, 0, none⟩) (Kd.V_mono HL1192_0.out (fun k_ hk => (⟨hk, hk.2⟩ : _ ∧ k_ ≠ gb1228))) (fun _ hk => hk.2) (.int .i64 t1222)) (fun _ hk => hk.2) (.int .i64 t1223)) (fun _ hk => hk.2) (.int .i64 t1224)) (fun _ hk => hk.2) (.string t1225)) (fun _ hk => hk.2) (.int .i64 t1226)) (fun _ h_ => h_.1)))).2.2) hb); replace HL1192_0 := am (Kd.V_below (by (with_reducible repeat (first | apply Kd.V_alloc | apply Kd.V_drewN | apply Kd.V_drew)); exact (Kd.V_mono (Kd.V_far (p := ⟨gb1228, 4, none⟩) (Kd.V_far (p := ⟨gb1228, 3, none⟩) (Kd.V_far (p := ⟨gb1228, 2, none⟩) (Kd.V_far (p := ⟨gb1228, 1, none⟩) (Kd.V_far (p := ⟨gb1228, 0, none⟩) (Kd.V_mono HL1192_0.out (fun k_ hk => (⟨hk, hk.2⟩ : _ ∧ k_ ≠ gb1228))) (fun _ hk => hk.2) (.int .i64 t1222)) (fun _ hk => hk.2) (.int .i64 t1223)) (fun _ hk => hk.2) (.int .i64 t1224)) (fun _ hk => hk.2) (.string t1225)) (fun _ hk => hk.2) (.int .i64 t1226)) (fun _ h_ => h_.1))) hb); replace BK1206 := am (blk_below (g := gb1206) (o := .cells #[.int .i64 t1194, .int .i64 t1195, .int .i64 t1196, .int .i64 t1197, .string t1198, .int .i64 t1199, .string t1200, .slice Ao45 t1201.length co45] 31 (0, 0)) (bp BK1206.out) hb); replace HR1207_0 := am (Kd.C_below ((Kd.V_reads' (by (with_reducible repeat (first | apply Kd.V_alloc | apply Kd.V_drewN | apply Kd.V_drew)); exact (Kd.V_mono (Kd.V_far (p := ⟨gb1228, 4, none⟩) (Kd.V_far (p := ⟨gb1228, 3, none⟩) (Kd.V_far (p := ⟨gb1228, 2, none⟩) (Kd.V_far (p := ⟨gb1228, 1, none⟩) (Kd.V_far (p := ⟨gb1228, 0, none⟩) (Kd.V_mono HL1207_0.out (fun k_ hk => (⟨hk, hk.2⟩ : _ ∧ k_ ≠ gb1228))) (fun _ hk => hk.2) (.int .i64 t1222)) (fun _ hk => hk.2) (.int .i64 t1223)) (fun _ hk => hk.2) (.int .i64 t1224)) (fun _ hk => hk.2) (.string t1225)) (fun _ hk => hk.2) (.int .i64 t1226)) (fun _ h_ => h_.1)))).2.2) hb); replace HL1207_0 := am (Kd.V_below (by (with_reducible repeat (first | apply Kd.V_alloc | apply Kd.V_drewN | apply Kd.V_drew)); exact (Kd.V_mono (Kd.V_far (p := ⟨gb1228, 4, none⟩) (Kd.V_far (p := ⟨gb1228, 3, none⟩) (Kd.V_far (p := ⟨gb1228, 2, none⟩) (Kd.V_far (p := ⟨gb1228, 1, none⟩) (Kd.V_far (p := ⟨gb1228, 0, none⟩) (Kd.V_mono HL1207_0.out (fun k_ hk => (⟨hk, hk.2⟩ : _ ∧ k_ ≠ gb1228))) (fun _ hk => hk.2) (.int .i64 t1222)) (fun _ hk => hk.2) (.int .i64 t1223)) (fun _ hk => hk.2) (.int .i64 t1224)) (fun _ hk => hk.2) (.string t1225)) (fun _ hk => hk.2) (.int .i64 t1226)) (fun _ h_ => h_.1))) hb); replace BK1221 := am (blk_below (g := gb1221) (o := .cells #[.int .i64 t1209, .int .i64 t1210, .int .i64 t1211, .int .i64 t1212, .string t1213, .int .i64 t1214, .string t1215, .slice Ao53 t1216.length co53] 31 (0, 0)) (bp BK1221.out) hb); replace BK1228 := am (blk_below (g := gb1228) (o := .cells #[.int .i64 t1222, .int .i64 t1223, .int .i64 t1224, .string t1225, .int .i64 t1226] 25 (0, 0)) (bp BK1228.out) hb); replace HB := sb HB hb; clear hb) | ((with_reducible refine gate_dst (N := 16) rfl ?_); refine bev (#[.int .i64 0, .int .i64 0, .int .i64 0, .string (⟨#[]⟩ : ByteArray), .int .i64 0]) 25 ?_; intro gb1235 hg w65 hbox hb; replace HO_5 := am (Kd.R_below (rr HO_5.out) hb); replace HO_6 := am (Kd.N_below (Kd.N_elderB (nn HO_6.out) gb1235 (Nat.le_of_eq hg.symm)) hb); replace HL1192_0 := am (Kd.V_below (Kd.V_elderB (vv HL1192_0.out) gb1235 (Nat.le_of_eq hg.symm)) hb); replace HO1203 := am (Kd.V_below (Kd.V_elderB (vv HO1203.out) gb1235 (Nat.le_of_eq hg.symm)) hb); replace HL1207_0 := am (Kd.V_below (Kd.V_elderB (vv HL1207_0.out) gb1235 (Nat.le_of_eq hg.symm)) hb); replace HO1218 := am (Kd.V_below (Kd.V_elderB (vv HO1218.out) gb1235 (Nat.le_of_eq hg.symm)) hb); replace HR1192_0 := am (Kd.C_below (by repeat (first | (with_reducible exact HR1192_0.out) | (with_reducible refine Kd.C_alloc ?_ _) | (with_reducible refine Kd.C_drewN ?_ _) | (with_reducible refine Kd.C_drew ?_) | exact HR1192_0.out)) hb); replace HR1207_0 := am (Kd.C_below (by repeat (first | (with_reducible exact HR1207_0.out) | (with_reducible refine Kd.C_alloc ?_ _) | (with_reducible refine Kd.C_drewN ?_ _) | (with_reducible refine Kd.C_drew ?_) | exact HR1207_0.out)) hb); have BK1235 := am (hbox); have GW1235 := gs hg HB; have GE1235 := GW1235; replace HB := sb HB hb; have NB1165_1235 := na hg BK1165; have NB1235_1165 := nb hg BK1165; replace BK1165 := kb BK1165 hb; have NB1166_1235 := na hg BK1166; have NB1235_1166 := nb hg BK1166; replace BK1166 := kb BK1166 hb; have NB1206_1235 := na hg BK1206; have NB1235_1206 := nb hg BK1206; replace BK1206 := kb BK1206 hb; have NB1221_1235 := na hg BK1221; have NB1235_1221 := nb hg BK1221; replace BK1221 := kb BK1221 hb; have NB1228_1235 := na hg BK1228; have NB1235_1228 := nb hg BK1228; replace BK1228 := kb BK1228 hb; clear hb hbox hg; have hnb66 := NB1235_1165.out; have hnc66 := NB1165_1235.out; have hnb67 := NB1235_1166.out; have hnc67 := NB1166_1235.out; have hnb68 := NB1235_1206.out; have hnc68 := NB1206_1235.out; have hnb69 := NB1235_1221.out; have hnc69 := NB1221_1235.out; have hnb70 := NB1235_1228.out; have hnc70 := NB1228_1235.out; obtain ⟨Z71_0, Z71_1, Z71_2, Z71_3, Z71_4, F71_0, F71_1, F71_2, F71_3, F71_4⟩ := cz5 BK1235.out))
       (try simp only [Act.put, List.setIfInBounds_toArray, List.set_cons_zero, List.set_cons_succ])
       go_cut [85] (fun v85 wc => ∃ (kq : Nat) (x85_37 : Bool), v85 = .bool x85_37 ∧ Aside0 (soffitlaw11_CalcSides.j1 kq y1167 y1188 x7_1 x85_37 = some r) ∧ Aside0 (kq ≤ k1) ∧ Aside0 (Kd.R k27 27 wc w.heap.size (fun _ => True) (.slice Ao55 y1167.length co55) y1167) ∧ Aside0 (Kd.N (Kd.slice 9 Kd.string) 41 wc w.heap.size (fun k_ => some k_ ≠ ((.slice Ao55 y1167.length co55) : Value).ownBlock ∧ k_ ≠ gb1165 ∧ k_ ≠ gb1166 ∧ k_ ≠ gb1206 ∧ k_ ≠ gb1221 ∧ k_ ≠ gb1228 ∧ k_ ≠ gb1235) (.slice (some ad1192) y1188.length co39) y1188) ∧ Aside0 (Kd.V k31 31 wc w.heap.size (fun k_ => some k_ ≠ ((.slice Ao55 y1167.length co55) : Value).ownBlock ∧ some k_ ≠ ((.slice (some ad1192) y1188.length co39) : Value).ownBlock ∧ k_ ≠ gb1165 ∧ k_ ≠ gb1166 ∧ k_ ≠ gb1206 ∧ k_ ≠ gb1221 ∧ k_ ≠ gb1228 ∧ k_ ≠ gb1235) (.slice Ao45 t1201.length co45) t1201) ∧ Aside0 (Kd.V k31 31 wc w.heap.size (fun k_ => some k_ ≠ ((.slice Ao55 y1167.length co55) : Value).ownBlock ∧ some k_ ≠ ((.slice (some ad1192) y1188.length co39) : Value).ownBlock ∧ k_ ≠ gb1165 ∧ k_ ≠ gb1166 ∧ k_ ≠ gb1206 ∧ k_ ≠ gb1221 ∧ k_ ≠ gb1228 ∧ k_ ≠ gb1235) (.slice Ao53 t1216.length co53) t1216) ∧ Aside0 (wc.heap[gb1165]? = some (.cells #[.int .i64 a0_0, .int .i64 a0_1, .int .i64 a0_2, .string a0_3, .int .i64 a0_4] 25 (0, 0))) ∧ Aside0 (wc.heap[gb1166]? = some (.cells #[.int .i64 a1_0, .int .i64 a1_1, .int .i64 a1_2, .string a1_3, .int .i64 a1_4] 25 (0, 0))) ∧ Aside0 (wc.heap[gb1206]? = some (.cells #[.int .i64 t1194, .int .i64 t1195, .int .i64 t1196, .int .i64 t1197, .string t1198, .int .i64 t1199, .string t1200, (.slice Ao45 t1201.length co45)] 31 (0, 0))) ∧ Aside0 (wc.heap[gb1221]? = some (.cells #[.int .i64 t1209, .int .i64 t1210, .int .i64 t1211, .int .i64 t1212, .string t1213, .int .i64 t1214, .string t1215, (.slice Ao53 t1216.length co53)] 31 (0, 0))) ∧ Aside0 (wc.heap[gb1228]? = some (.cells #[.int .i64 t1222, .int .i64 t1223, .int .i64 t1224, .string t1225, .int .i64 t1226] 25 (0, 0))) ∧ Aside0 (wc.heap[gb1235]? = some (.cells #[.int .i64 t1229, .int .i64 t1230, .int .i64 t1231, .string t1232, .int .i64 t1233] 25 (0, 0))) ∧ Aside0 (Kd.C Kd.string wc (some ad1193) (rd_L6 y1188 x7_1).length (rd_L6 y1188 x7_1)) ∧ Aside0 (Kd.C Kd.string wc (some ad1208) (rd_L6 y1188 x7_1).length (rd_L6 y1188 x7_1)) ∧ Aside0 (Below w.heap.size w wc))
       case first =>
        have H := HC38.out
        clear HC38
        by_cases c72 : t1205 = 0
        ·replace H := ipe c72 H
         obtain ⟨H, c72b0, c72b1⟩ := H
         clear c72
         (first | rw [c72b0] | (simp only [i64_w, i32_w]; rw [c72b0]) | skip)
         by_cases c73 : t1220 = 0
         ·replace H := ipe c73 H
          obtain ⟨H, c73b0, c73b1⟩ := H
          clear c73
          by_cases c74 : t1227 = t1234
          ·replace H := ipe c74 H
           obtain ⟨H, c74b0, c74b1⟩ := H
           clear c74
           have H' := am H
           clear H
           have hnb75 := NB1228_1165.out
           have hnc75 := NB1165_1228.out
           have hnb76 := NB1228_1166.out
           have hnc76 := NB1166_1228.out
           have hnb77 := NB1228_1206.out
           have hnc77 := NB1206_1228.out
           have hnb78 := NB1228_1221.out
           have hnc78 := NB1221_1228.out
           have hnb79 := NB1228_1235.out
           have hnc79 := NB1235_1228.out
           obtain ⟨Z80_0, Z80_1, Z80_2, Z80_3, Z80_4, F80_0, F80_1, F80_2, F80_3, F80_4⟩ := cz5 BK1228.out
           have hnb81 := NB1235_1165.out
           have hnc81 := NB1165_1235.out
           have hnb82 := NB1235_1166.out
           have hnc82 := NB1166_1235.out
           have hnb83 := NB1235_1206.out
           have hnc83 := NB1206_1235.out
           have hnb84 := NB1235_1221.out
           have hnc84 := NB1221_1235.out
           obtain ⟨Z85_0, Z85_1, Z85_2, Z85_3, Z85_4, F85_0, F85_1, F85_2, F85_3, F85_4⟩ := cz5 BK1235.out
           go_wp2
           go_meet
           case rel => exact ⟨_, ((!(t1222 == t1229) || ((!(t1223 == t1230) || (!(t1224 == t1231))) || (!(t1225.toList == t1232.toList) || (!(t1226 == t1233)))))), sz, H', ⟨by have := HK1.out; first | omega | exact Nat.le_refl _⟩, ⟨vfR (Kd.R_types HO_5.out BK1235.out (by decide))⟩, ⟨vfN HO_6.out⟩, ⟨vfV HO1203.out⟩, ⟨vfV HO1218.out⟩, ⟨bp BK1165.out⟩, ⟨bp BK1166.out⟩, ⟨bp BK1206.out⟩, ⟨bp BK1221.out⟩, ⟨bp BK1228.out⟩, ⟨bp BK1235.out⟩, ⟨(Kd.V_reads' (by (with_reducible repeat (first | apply Kd.V_alloc | apply Kd.V_drewN | apply Kd.V_drew)); exact (Kd.V_mono (Kd.V_far (p := ⟨gb1235, 4, none⟩) (Kd.V_far (p := ⟨gb1235, 3, none⟩) (Kd.V_far (p := ⟨gb1235, 2, none⟩) (Kd.V_far (p := ⟨gb1235, 1, none⟩) (Kd.V_far (p := ⟨gb1235, 0, none⟩) (Kd.V_mono HL1192_0.out (fun k_ hk => (⟨hk, hk.2⟩ : _ ∧ k_ ≠ gb1235))) (fun _ hk => hk.2) (.int .i64 t1229)) (fun _ hk => hk.2) (.int .i64 t1230)) (fun _ hk => hk.2) (.int .i64 t1231)) (fun _ hk => hk.2) (.string t1232)) (fun _ hk => hk.2) (.int .i64 t1233)) (fun _ h_ => h_.1)))).2.2⟩, ⟨(Kd.V_reads' (by (with_reducible repeat (first | apply Kd.V_alloc | apply Kd.V_drewN | apply Kd.V_drew)); exact (Kd.V_mono (Kd.V_far (p := ⟨gb1235, 4, none⟩) (Kd.V_far (p := ⟨gb1235, 3, none⟩) (Kd.V_far (p := ⟨gb1235, 2, none⟩) (Kd.V_far (p := ⟨gb1235, 1, none⟩) (Kd.V_far (p := ⟨gb1235, 0, none⟩) (Kd.V_mono HL1207_0.out (fun k_ hk => (⟨hk, hk.2⟩ : _ ∧ k_ ≠ gb1235))) (fun _ hk => hk.2) (.int .i64 t1229)) (fun _ hk => hk.2) (.int .i64 t1230)) (fun _ hk => hk.2) (.int .i64 t1231)) (fun _ hk => hk.2) (.string t1232)) (fun _ hk => hk.2) (.int .i64 t1233)) (fun _ h_ => h_.1)))).2.2⟩, ⟨bz HB.out⟩⟩
          replace H := ine c74 H
          obtain ⟨H, c74b0, c74b1⟩ := H
          have H' := am H
          clear H
          go_wp2
          go_meet
          case rel => exact ⟨_, (true), sz, H', ⟨by have := HK1.out; first | omega | exact Nat.le_refl _⟩, ⟨vfR (Kd.R_types HO_5.out BK1235.out (by decide))⟩, ⟨vfN HO_6.out⟩, ⟨vfV HO1203.out⟩, ⟨vfV HO1218.out⟩, ⟨bp BK1165.out⟩, ⟨bp BK1166.out⟩, ⟨bp BK1206.out⟩, ⟨bp BK1221.out⟩, ⟨bp BK1228.out⟩, ⟨bp BK1235.out⟩, ⟨(Kd.V_reads' (by (with_reducible repeat (first | apply Kd.V_alloc | apply Kd.V_drewN | apply Kd.V_drew)); exact (Kd.V_mono (Kd.V_far (p := ⟨gb1235, 4, none⟩) (Kd.V_far (p := ⟨gb1235, 3, none⟩) (Kd.V_far (p := ⟨gb1235, 2, none⟩) (Kd.V_far (p := ⟨gb1235, 1, none⟩) (Kd.V_far (p := ⟨gb1235, 0, none⟩) (Kd.V_mono HL1192_0.out (fun k_ hk => (⟨hk, hk.2⟩ : _ ∧ k_ ≠ gb1235))) (fun _ hk => hk.2) (.int .i64 t1229)) (fun _ hk => hk.2) (.int .i64 t1230)) (fun _ hk => hk.2) (.int .i64 t1231)) (fun _ hk => hk.2) (.string t1232)) (fun _ hk => hk.2) (.int .i64 t1233)) (fun _ h_ => h_.1)))).2.2⟩, ⟨(Kd.V_reads' (by (with_reducible repeat (first | apply Kd.V_alloc | apply Kd.V_drewN | apply Kd.V_drew)); exact (Kd.V_mono (Kd.V_far (p := ⟨gb1235, 4, none⟩) (Kd.V_far (p := ⟨gb1235, 3, none⟩) (Kd.V_far (p := ⟨gb1235, 2, none⟩) (Kd.V_far (p := ⟨gb1235, 1, none⟩) (Kd.V_far (p := ⟨gb1235, 0, none⟩) (Kd.V_mono HL1207_0.out (fun k_ hk => (⟨hk, hk.2⟩ : _ ∧ k_ ≠ gb1235))) (fun _ hk => hk.2) (.int .i64 t1229)) (fun _ hk => hk.2) (.int .i64 t1230)) (fun _ hk => hk.2) (.int .i64 t1231)) (fun _ hk => hk.2) (.string t1232)) (fun _ hk => hk.2) (.int .i64 t1233)) (fun _ h_ => h_.1)))).2.2⟩, ⟨bz HB.out⟩⟩
         replace H := ine c73 H
         obtain ⟨H, c73b0, c73b1⟩ := H
         have H' := am H
         clear H
         go_wp2
         go_meet
         case rel => exact ⟨_, (true), sz, H', ⟨by have := HK1.out; first | omega | exact Nat.le_refl _⟩, ⟨vfR (Kd.R_types HO_5.out BK1235.out (by decide))⟩, ⟨vfN HO_6.out⟩, ⟨vfV HO1203.out⟩, ⟨vfV HO1218.out⟩, ⟨bp BK1165.out⟩, ⟨bp BK1166.out⟩, ⟨bp BK1206.out⟩, ⟨bp BK1221.out⟩, ⟨bp BK1228.out⟩, ⟨bp BK1235.out⟩, ⟨(Kd.V_reads' (by (with_reducible repeat (first | apply Kd.V_alloc | apply Kd.V_drewN | apply Kd.V_drew)); exact (Kd.V_mono (Kd.V_far (p := ⟨gb1235, 4, none⟩) (Kd.V_far (p := ⟨gb1235, 3, none⟩) (Kd.V_far (p := ⟨gb1235, 2, none⟩) (Kd.V_far (p := ⟨gb1235, 1, none⟩) (Kd.V_far (p := ⟨gb1235, 0, none⟩) (Kd.V_mono HL1192_0.out (fun k_ hk => (⟨hk, hk.2⟩ : _ ∧ k_ ≠ gb1235))) (fun _ hk => hk.2) (.int .i64 t1229)) (fun _ hk => hk.2) (.int .i64 t1230)) (fun _ hk => hk.2) (.int .i64 t1231)) (fun _ hk => hk.2) (.string t1232)) (fun _ hk => hk.2) (.int .i64 t1233)) (fun _ h_ => h_.1)))).2.2⟩, ⟨(Kd.V_reads' (by (with_reducible repeat (first | apply Kd.V_alloc | apply Kd.V_drewN | apply Kd.V_drew)); exact (Kd.V_mono (Kd.V_far (p := ⟨gb1235, 4, none⟩) (Kd.V_far (p := ⟨gb1235, 3, none⟩) (Kd.V_far (p := ⟨gb1235, 2, none⟩) (Kd.V_far (p := ⟨gb1235, 1, none⟩) (Kd.V_far (p := ⟨gb1235, 0, none⟩) (Kd.V_mono HL1207_0.out (fun k_ hk => (⟨hk, hk.2⟩ : _ ∧ k_ ≠ gb1235))) (fun _ hk => hk.2) (.int .i64 t1229)) (fun _ hk => hk.2) (.int .i64 t1230)) (fun _ hk => hk.2) (.int .i64 t1231)) (fun _ hk => hk.2) (.string t1232)) (fun _ hk => hk.2) (.int .i64 t1233)) (fun _ h_ => h_.1)))).2.2⟩, ⟨bz HB.out⟩⟩
        replace H := ine c72 H
        obtain ⟨H, c72b0, c72b1⟩ := H
        (first | rw [c72b0] | (simp only [i64_w, i32_w]; rw [c72b0]) | skip)
        have H' := am H
        clear H
        go_wp2
        go_meet
        case rel => exact ⟨_, (true), sz, H', ⟨by have := HK1.out; first | omega | exact Nat.le_refl _⟩, ⟨vfR (Kd.R_types HO_5.out BK1235.out (by decide))⟩, ⟨vfN HO_6.out⟩, ⟨vfV HO1203.out⟩, ⟨vfV HO1218.out⟩, ⟨bp BK1165.out⟩, ⟨bp BK1166.out⟩, ⟨bp BK1206.out⟩, ⟨bp BK1221.out⟩, ⟨bp BK1228.out⟩, ⟨bp BK1235.out⟩, ⟨(Kd.V_reads' (by (with_reducible repeat (first | apply Kd.V_alloc | apply Kd.V_drewN | apply Kd.V_drew)); exact (Kd.V_mono (Kd.V_far (p := ⟨gb1235, 4, none⟩) (Kd.V_far (p := ⟨gb1235, 3, none⟩) (Kd.V_far (p := ⟨gb1235, 2, none⟩) (Kd.V_far (p := ⟨gb1235, 1, none⟩) (Kd.V_far (p := ⟨gb1235, 0, none⟩) (Kd.V_mono HL1192_0.out (fun k_ hk => (⟨hk, hk.2⟩ : _ ∧ k_ ≠ gb1235))) (fun _ hk => hk.2) (.int .i64 t1229)) (fun _ hk => hk.2) (.int .i64 t1230)) (fun _ hk => hk.2) (.int .i64 t1231)) (fun _ hk => hk.2) (.string t1232)) (fun _ hk => hk.2) (.int .i64 t1233)) (fun _ h_ => h_.1)))).2.2⟩, ⟨(Kd.V_reads' (by (with_reducible repeat (first | apply Kd.V_alloc | apply Kd.V_drewN | apply Kd.V_drew)); exact (Kd.V_mono (Kd.V_far (p := ⟨gb1235, 4, none⟩) (Kd.V_far (p := ⟨gb1235, 3, none⟩) (Kd.V_far (p := ⟨gb1235, 2, none⟩) (Kd.V_far (p := ⟨gb1235, 1, none⟩) (Kd.V_far (p := ⟨gb1235, 0, none⟩) (Kd.V_mono HL1207_0.out (fun k_ hk => (⟨hk, hk.2⟩ : _ ∧ k_ ≠ gb1235))) (fun _ hk => hk.2) (.int .i64 t1229)) (fun _ hk => hk.2) (.int .i64 t1230)) (fun _ hk => hk.2) (.int .i64 t1231)) (fun _ hk => hk.2) (.string t1232)) (fun _ hk => hk.2) (.int .i64 t1233)) (fun _ h_ => h_.1)))).2.2⟩, ⟨bz HB.out⟩⟩
       case rest =>
        clear HC38
        try clear c6; try clear c30; try clear c30b0; try clear c31; try clear c31b0; try clear c32; try clear c32b0; try clear c32b1; try clear c34; try clear c34b0; try clear c34b1; try clear Z44_0; try clear Z44_1; try clear Z44_2; try clear Z44_3; try clear Z44_4; try clear Z44_5; try clear Z44_6; try clear Z44_7; try clear Z52_0; try clear Z52_1; try clear Z52_2; try clear Z52_3; try clear Z52_4; try clear Z52_5; try clear Z52_6; try clear Z52_7; try clear Z54_0; try clear Z54_1; try clear Z54_2; try clear Z54_3; try clear Z54_4; try clear Z54_5; try clear Z54_6; try clear Z54_7; try clear Z62_0; try clear Z62_1; try clear Z62_2; try clear Z62_3; try clear Z62_4; try clear Z63_0; try clear Z63_1; try clear Z63_2; try clear Z63_3; try clear Z63_4; try clear Z63_5; try clear Z63_6; try clear Z63_7; try clear Z6_0; try clear Z6_1; try clear Z6_2; try clear Z6_3; try clear Z6_4; try clear Z71_0; try clear Z71_1; try clear Z71_2; try clear Z71_3; try clear Z71_4; try clear Z7_0; try clear Z7_1; try clear Z7_2; try clear Z7_3; try clear Z7_4; try clear F44_0; try clear F44_1; try clear F44_2; try clear F44_3; try clear F44_4; try clear F44_5; try clear F44_6; try clear F44_7; try clear F52_0; try clear F52_1; try clear F52_2; try clear F52_3; try clear F52_4; try clear F52_5; try clear F52_6; try clear F52_7; try clear F54_0; try clear F54_1; try clear F54_2; try clear F54_3; try clear F54_4; try clear F54_5; try clear F54_6; try clear F54_7; try clear F62_0; try clear F62_1; try clear F62_2; try clear F62_3; try clear F62_4; try clear F63_0; try clear F63_1; try clear F63_2; try clear F63_3; try clear F63_4; try clear F63_5; try clear F63_6; try clear F63_7; try clear F6_0; try clear F6_1; try clear F6_2; try clear F6_3; try clear F6_4; try clear F71_0; try clear F71_1; try clear F71_2; try clear F71_3; try clear F71_4; try clear F7_0; try clear F7_1; try clear F7_2; try clear F7_3; try clear F7_4; try clear hx1192_0; try clear hx1193_0; try clear hx1207_0; try clear hx1208_0; try clear p1192; try clear p1193; try clear p1207; try clear p1208; try clear q1192; try clear q1193; try clear q1207; try clear q1208
        obtain ⟨kq, x85_37, rfl, HA, HJ37, HO_5, HO_6, HO_1207007, HO_1222007, BK1165, BK1166, BK1206, BK1221, BK1228, BK1235, HR1192_0, HR1207_0, HB⟩ := hcut
        cases kq with
        | zero => exact absurd HA.out (by simp [soffitlaw11_CalcSides.j1])
        | succ kj37 =>
         have H := HA.out
         clear HA
         simp only [soffitlaw11_CalcSides.j1] at H
         by_cases c86 : x85_37 = true
         ·subst c86
          replace H := ift H
          exact absurd HR.out (by rw [← Option.some.inj H]; simp)
         replace c86 := Bool.eq_false_iff.mpr c86
         subst c86
         replace H := iff_ H
         have H' := am H
         clear H
         go_wp2
         go_roundg kj37
         case measure => have := HK1.out; have := HJ37.out; omega
         case rel => exact ⟨(wrap64 (x7_1 + 1)), sz, H', ⟨by have := HK1.out; have := HJ37.out; omega⟩, ⟨rr HO_5.out⟩, ⟨by (with_reducible repeat (first | apply Kd.N_alloc | apply Kd.N_drewN | apply Kd.N_drew)); exact Kd.N_mono HO_6.out (fun _ hk => ⟨hk.1, ⟨hk.2.1, hk.2.2.1⟩⟩)⟩, ⟨bk BK1165.out⟩, ⟨bk BK1166.out⟩, ⟨bz HB.out⟩⟩
      rw [if_neg c34] at H
      exact absurd H (by simp)
     rw [if_neg c32] at H
     exact absurd H (by simp)
    rw [if_neg c31] at H
    exact absurd H (by simp)
   rw [if_neg c30] at H
   have c30b0 : decide (x7_1 < (y1188.length : Int)) = false := decide_eq_false c30
   clear c30
   replace H := obe H
   obtain ⟨t1191, A87, H⟩ := H
   obtain rfl := Option.some.inj H
   obtain ⟨Ao88, co88, eo88⟩ := Kd.N_slice HO_6.out
   subst eo88
   go_wp2_with (first | ((with_reducible refine gate_callee (f := 14) rfl ?_); refine gl_ (some 86) Tryz.func14 (by kernel_rfl) #[] rfl ?_; (with_reducible refine (soffitlaw11_awake.calls k1  t1191 _ ?side1 A87.out).mono ?_); (case side1 => exact tabs_of HT.out (bz HB.out)); rintro e w89 ⟨rfl, hb⟩; refine ⟨_, rfl, ?_⟩; replace HO_5 := am (Kd.R_below (rr HO_5.out) hb); replace HO_6 := am (Kd.N_below (nn HO_6.out) hb); replace BK1165 := kb BK1165 hb; replace BK1166 := kb BK1166 hb; replace HB := sb HB hb; clear hb))
   go_ret
   exact ⟨az, bz HB.out⟩
end Go.Proofs.YtgkemhgihbfmmaaGreatDoor.PA
end
section
namespace Go.Proofs.YtgkemhgihbfmmaaGreatDoor.PA
open Go.RowKit Go.Proofs.YtgkemhgihbfmmaaGreatDoorW.PrintWords Go.Proofs.YtgkemhgihbfmmaaGreatDoorW.PrintLast Go.Proofs.YtgkemhgihbfmmaaGreatDoorW.PrintMore
attribute [local go_sem] max2_int min2_int max_two min_two max_three min_three max_four min_four
set_option linter.unusedVariables false
set_option linter.unusedSimpArgs false
end Go.Proofs.YtgkemhgihbfmmaaGreatDoor.PA
end
section
namespace Go.Proofs.YtgkemhgihbfmmaaGreatDoor.M
def sh : Nat → Int → Int × Int
  | 0, n => (n, 0)
  | s + 1, n => if n % 10 = 0 then sh s (n / 10) else (n, (s : Int) + 1)
theorem sh_id (s : Nat) (n : Int) (h : s = 0 ∨ n % 10 ≠ 0) : sh s n = (n, (s : Int)) := by
  cases s with
  | zero => rfl
  | succ s =>
    have h' : ¬ n % 10 = 0 := by omega
    simp [sh, h']
theorem sh_neg (s : Nat) : ∀ n : Int, sh s (-n) = (-(sh s n).1, (sh s n).2) := by
  induction s with
  | zero => intro n; rfl
  | succ s ih =>
    intro n
    by_cases h : n % 10 = 0
    · have h2 : (-n) % 10 = 0 := by omega
      have h3 : (-n) / 10 = -(n / 10) := by omega
      simp only [sh, h, h2, if_true, h3, ih]
    · have h2 : ¬ (-n) % 10 = 0 := by omega
      simp only [sh, h, h2, if_false]
theorem sh_spec (s : Nat) : ∀ n : Int, ∃ t : Nat, t ≤ s ∧ (sh s n).2 = ((s - t : Nat) : Int) ∧ n = (sh s n).1 * 10 ^ t ∧ ((sh s n).2 = 0 ∨ (sh s n).1 % 10 ≠ 0) := by
  induction s with
  | zero => intro n; exact ⟨0, Nat.le_refl _, rfl, by simp [sh], .inl rfl⟩
  | succ s ih =>
    intro n
    by_cases h : n % 10 = 0
    · obtain ⟨t, h1, h2, h3, h4⟩ := ih (n / 10)
      refine ⟨t + 1, by omega, ?_, ?_, ?_⟩
      · simp only [sh, h, if_true]; rw [h2]; congr 1; omega
      · simp only [sh, h, if_true]
        have e : n = (n / 10) * 10 := by omega
        rw [Int.pow_succ, ← Int.mul_assoc, ← h3]; exact e
      · simp only [sh, h, if_true]; exact h4
    · refine ⟨0, Nat.zero_le _, ?_, ?_, ?_⟩
      · simp [sh, h]
      · simp [sh, h]
      · simp only [sh, h, if_false]; exact .inr h
theorem sh_nonneg (s : Nat) : ∀ n : Int, 0 ≤ n → 0 ≤ (sh s n).1 ∧ (sh s n).1 ≤ n := by
  induction s with
  | zero => intro n h; simp only [sh]; omega
  | succ s ih =>
    intro n h
    by_cases h1 : n % 10 = 0
    · have := ih (n / 10) (by omega)
      simp only [sh, h1, if_true]; omega
    · simp only [sh, h1, if_false]; omega
def decS (n : Int) (s : Nat) (m : Bool) : Int × Int × Int :=
  if 999999999999 < (sh s n).1 then (0, 0, 3) else (if m = true then -(sh s n).1 else (sh s n).1, (sh s n).2, 0)
def Snd (n s : Int) : Prop := 0 ≤ s ∧ s ≤ 6 ∧ -999999999999 ≤ n ∧ n ≤ 999999999999 ∧ (s = 0 ∨ n % 10 ≠ 0)
instance (n s : Int) : Decidable (Snd n s) := by unfold Snd; infer_instance
def mk (n s : Int) : Int × Int × Int :=
  if s < 0 ∨ 6 < s ∨ 999999999999 < n ∨ n < -999999999999 then (0, 0, 3) else ((sh s.toNat n).1, (sh s.toNat n).2, 0)
theorem mk_sound (n s : Int) (h : Snd n s) : mk n s = (n, s, 0) := by
  obtain ⟨h0, h1, h2, h3, h4⟩ := h
  unfold mk; rw [if_neg (by omega)]
  rw [sh_id s.toNat n (by omega)]; simp only [Prod.mk.injEq, and_true, true_and]; omega
theorem mk_unsound (n s : Int) (h : ¬ Snd n s) : ¬ ((mk n s).2.2 = 0 ∧ (mk n s).1 = n ∧ (mk n s).2.1 = s) := by
  unfold mk
  by_cases h1 : s < 0 ∨ 6 < s ∨ 999999999999 < n ∨ n < -999999999999
  · rw [if_pos h1]; simp
  · rw [if_neg h1]
    rintro ⟨_, h2, h3⟩
    apply h
    refine ⟨by omega, by omega, by omega, by omega, ?_⟩
    obtain ⟨t, _, _, _, h4⟩ := sh_spec s.toNat n
    simp only at h2 h3
    rw [h2, h3] at h4; exact h4
def Dig (l : List Int) : Prop := ∀ d, d ∈ l → 0 ≤ d ∧ d ≤ 9
theorem Dig.drop {l : List Int} (h : Dig l) (k : Nat) : Dig (l.drop k) := fun d hd => h d (List.mem_of_mem_drop hd)
theorem Dig.take {l : List Int} (h : Dig l) (k : Nat) : Dig (l.take k) := fun d hd => h d (List.mem_of_mem_take hd)
theorem Dig.replicate (n : Nat) : Dig (List.replicate n 0) := fun d hd => by
  have := (List.mem_replicate.1 hd).2; omega
theorem pow_pos (k : Nat) : (0 : Int) < 10 ^ k := Int.pow_pos (by decide)
end Go.Proofs.YtgkemhgihbfmmaaGreatDoor.M
end
section
namespace Go.Proofs.YtgkemhgihbfmmaaGreatDoor.PA
open Go.RowKit Go.Proofs.YtgkemhgihbfmmaaGreatDoorW.PrintWords Go.Proofs.YtgkemhgihbfmmaaGreatDoorW.PrintLast Go.Proofs.YtgkemhgihbfmmaaGreatDoorW.PrintMore
open Go.Proofs.YtgkemhgihbfmmaaGreatDoor.M
theorem w64 {x : Int} (h1 : -9223372036854775808 ≤ x) (h2 : x < 9223372036854775808) : wrap64 x = x := by unfold wrap64; omega
theorem wu64 {x : Int} (h1 : 0 ≤ x) (h2 : x < 18446744073709551616) : IntKind.u64.wrap x = x := by rw [IntKind.wrap_u64]; omega
theorem obs {α β : Type} (a : α) (f : α → Option β) : (some a).bind f = f a := by simp
theorem succ_of {k : Nat} (h : 0 < k) : ∃ m, k = m + 1 := ⟨k - 1, by omega⟩
theorem short_l0 (s : Nat) : ∀ (k : Nat) (n : Int), s < k → s ≤ 1000 → 0 ≤ n → n < 18446744073709551616 → deci_form_short.l0 k n s = some (sh s n) := by
  induction s with
  | zero =>
    intro k n hk _ _ _
    obtain ⟨k, rfl⟩ := succ_of (show 0 < k by omega)
    simp only [deci_form_short.l0]; rw [if_neg (by omega)]; rfl
  | succ s ih =>
    intro k n hk hs h0 h1
    obtain ⟨k, rfl⟩ := succ_of (show 0 < k by omega)
    simp only [deci_form_short.l0]
    rw [if_pos (by omega), Int.tmod_eq_emod_of_nonneg h0, Int.tdiv_eq_ediv_of_nonneg h0]
    by_cases h : n % 10 = 0
    · rw [if_pos h, wu64 (by omega) (by omega), w64 (by omega) (by omega), show ((s + 1 : Nat) : Int) - 1 = (s : Int) by omega, ih k (n / 10) (by omega) (by omega) (by omega) (by omega)]
      simp only [sh, h, if_true]
    · rw [if_neg h]; simp only [sh, h, if_false]; rfl
theorem dec_f {k : Nat} {n s : Int} {m : Bool} (hk : 8 ≤ k) (h0 : 0 ≤ n) (h1 : n < 18446744073709551616) (hs0 : 0 ≤ s) (hs : s ≤ 6) :
    deci_form_dec.f k n s m = some (decS n s.toNat m) := by
  obtain ⟨t, rfl⟩ := Int.eq_ofNat_of_zero_le hs0
  unfold deci_form_dec.f deci_form_short.f
  rw [short_l0 t k n (by omega) (by omega) h0 h1]
  simp only [Option.bind_some, Int.toNat_natCast]
  have hb := sh_nonneg t n h0
  unfold decS
  by_cases h : 999999999999 < (sh t n).1
  · rw [if_pos h, if_pos h]
  · rw [if_neg h, if_neg h, w64 (x := (sh t n).1) (by omega) (by omega), w64 (by omega) (by omega)]
    cases m <;> rfl
theorem mx_abs {n : Int} (h1 : -9223372036854775807 ≤ n) (h2 : n < 9223372036854775808) : IntKind.u64.wrap (mx n (wrap64 (-n))) = n.natAbs := by
  rw [w64 (by omega) (by omega)]; unfold mx
  split <;> (rw [wu64 (by omega) (by omega)]; omega)
theorem decS_mk (n s : Int) (h : ¬ (s < 0 ∨ 6 < s ∨ 999999999999 < n ∨ n < -999999999999)) : decS (n.natAbs : Int) s.toNat (decide (n < 0)) = mk n s := by
  unfold decS mk
  rw [if_neg h]
  have hb := sh_nonneg s.toNat (n.natAbs : Int) (by omega)
  rw [if_neg (by omega)]
  by_cases g : n < 0
  · have e : n = -((n.natAbs : Nat) : Int) := by omega
    simp only [g, decide_true, if_true]
    rw [e, sh_neg]; simp
  · have e : ((n.natAbs : Nat) : Int) = n := by omega
    simp only [g, decide_false, Bool.false_eq_true, if_false]
    rw [e]
theorem make_f {k : Nat} (hk : 10 ≤ k) (n s : Int) : deci_Make.f k n s = some (mk n s) := by
  have hj : ∀ b : Bool, b = decide (s < 0 ∨ 6 < s ∨ 999999999999 < n ∨ n < -999999999999) → deci_Make.j0 k n s b = some (mk n s) := by
    intro b hb
    obtain ⟨k, rfl⟩ := succ_of (show 0 < k by omega)
    simp only [deci_Make.j0]
    by_cases h : s < 0 ∨ 6 < s ∨ 999999999999 < n ∨ n < -999999999999
    · rw [if_pos (by rw [hb]; exact decide_eq_true h)]; unfold mk; rw [if_pos h]
    · rw [if_neg (by rw [hb, decide_eq_false h]; simp), mx_abs (by omega) (by omega), dec_f (by omega) (by omega) (by omega) (by omega) (by omega)]
      simp only [Option.bind_some]
      rw [decS_mk n s h]
  unfold deci_Make.f
  by_cases h1 : s < 0
  · rw [if_pos h1]; exact hj _ (decide_eq_true (by omega)).symm
  rw [if_neg h1]
  by_cases h2 : s > 6
  · rw [if_pos h2]; exact hj _ (decide_eq_true (by omega)).symm
  rw [if_neg h2]
  by_cases h3 : n > 999999999999
  · rw [if_pos h3]; exact hj _ (decide_eq_true (by omega)).symm
  rw [if_neg h3]
  exact hj _ (by rw [decide_eq_decide]; omega)
theorem sound_f {k : Nat} (hk : 10 ≤ k) (n s : Int) : deci_Sound.f k n s = some (decide (Snd n s)) := by
  unfold deci_Sound.f
  rw [make_f hk]; simp only [Option.bind_some]
  by_cases h : Snd n s
  · rw [mk_sound n s h]; simp [h]
  · have hu := mk_unsound n s h
    by_cases e : (mk n s).2.2 = 0
    · rw [if_pos e]; simp only [h, decide_false, Option.some.injEq, Bool.and_eq_false_iff, beq_eq_false_iff_ne]
      by_cases e1 : (mk n s).1 = n
      · right; intro e2; exact hu ⟨e, e1, e2⟩
      · left; exact e1
    · rw [if_neg e]; simp [h]
end Go.Proofs.YtgkemhgihbfmmaaGreatDoor.PA
end
section
namespace Go.Proofs.YtgkemhgihbfmmaaGreatDoor.PA
open Go.RowKit Go.Proofs.YtgkemhgihbfmmaaGreatDoorW.PrintWords Go.Proofs.YtgkemhgihbfmmaaGreatDoorW.PrintLast Go.Proofs.YtgkemhgihbfmmaaGreatDoorW.PrintMore
open Go.Proofs.YtgkemhgihbfmmaaGreatDoor.M
theorem and1 (x : Int) : Go.bits .and .i64 x 1 = 0 ∨ Go.bits .and .i64 x 1 = 1 := by
  have e : Go.bits .and .i64 x 1 = IntKind.i64.wrap (((BitVec.ofInt 64 x &&& BitVec.ofInt 64 1).toNat : Nat) : Int) := rfl
  have h1 : (BitVec.ofInt 64 (1 : Int)).toNat = 1 := by decide
  rw [e, BitVec.toNat_and, h1, Nat.and_one_is_mod]
  have : (BitVec.ofInt 64 x).toNat % 2 = 0 ∨ (BitVec.ofInt 64 x).toNat % 2 = 1 := by omega
  rcases this with h | h <;> rw [h] <;> decide
theorem and1_eq (x : Int) : (x == Go.bits .and .i64 x 1) = decide (x = 0 ∨ x = 1) := by
  by_cases h0 : x = 0
  · subst h0; decide
  · by_cases h1 : x = 1
    · subst h1; decide
    · rcases and1 x with h | h <;> rw [h] <;> simp [h0, h1]
def vsd (a n s : Int) (t : ByteArray) (x : Int) : Bool :=
  if a = 0 then n == 0 && s == 0 && t.toList == ([] : List UInt8) && x == 0
  else if a = 1 then decide (Snd n s) && t.toList == ([] : List UInt8) && x == 0
  else if a = 2 then n == 0 && s == 0 && x == 0 && decide (t.size ≤ 256) && decide (badFrom t t.size 0 < 0)
  else if a = 3 then n == 0 && s == 0 && t.toList == ([] : List UInt8) && decide (x = 0 ∨ x = 1)
  else if a = 4 then n == 0 && s == 0 && t.toList == ([] : List UInt8) && decide (0 ≤ x ∧ x ≤ 3652058)
  else false
theorem vsound_f {k : Nat} (hk : 10 ≤ k) (a n s : Int) (t : ByteArray) (x : Int) : value_Sound.f k a n s t x = some (vsd a n s t x) := by
  unfold value_Sound.f vsd
  by_cases h0 : a = 0
  · rw [if_pos h0, if_pos h0]; simp only [Bool.and_assoc]
  rw [if_neg h0, if_neg h0]
  by_cases h1 : a = 1
  · rw [if_pos h1, if_pos h1, sound_f hk]
    simp only [Option.bind_some]
    by_cases g : (t.toList == ([] : List UInt8) && (x == 0)) = true
    · rw [if_pos g]; simp only [Bool.and_assoc, g, Bool.and_true]
    · rw [if_neg g]; simp only [Bool.not_eq_true] at g; simp only [Bool.and_assoc, g, Bool.and_false]
  rw [if_neg h1, if_neg h1]
  by_cases h2 : a = 2
  · rw [if_pos h2, if_pos h2]
    by_cases g : ((n == 0 && (s == 0)) && (x == 0)) = true
    · rw [if_pos g, g]
      by_cases q : t.size ≤ 256
      · rw [if_pos (by omega)]
        unfold chars_Good.f chars_Bad.f
        rw [if_pos (by omega)]
        simp [q]
      · rw [if_neg (by omega)]; simp [q]
    · rw [if_neg g]; simp only [Bool.not_eq_true] at g; simp [g]
  rw [if_neg h2, if_neg h2]
  by_cases h3 : a = 3
  · rw [if_pos h3, if_pos h3, and1_eq]; simp only [Bool.and_assoc]
  rw [if_neg h3, if_neg h3]
  by_cases h4 : a = 4
  · rw [if_pos h4, if_pos h4]
    have : (x == mx 0 (mn x 3652058)) = decide (0 ≤ x ∧ x ≤ 3652058) := by
      unfold mx mn
      rw [Bool.eq_iff_iff]; simp only [beq_iff_eq, decide_eq_true_eq]
      split <;> split <;> omega
    rw [this]; simp only [Bool.and_assoc]
  · rw [if_neg h4, if_neg h4]
end Go.Proofs.YtgkemhgihbfmmaaGreatDoor.PA
end
section
namespace Go.Proofs.YtgkemhgihbfmmaaGreatDoor.PA
open Go.RowKit Go.Proofs.YtgkemhgihbfmmaaGreatDoorW.PrintWords Go.Proofs.YtgkemhgihbfmmaaGreatDoorW.PrintLast Go.Proofs.YtgkemhgihbfmmaaGreatDoorW.PrintMore
theorem up {α : Type} {f : Nat → Option α} (h : ∀ k, LeO (f k) (f (k + 1))) {k k' : Nat} (hk : k ≤ k') {r : α} (e : f k = some r) : f k' = some r := by
  induction k' with
  | zero => obtain rfl : k = 0 := by omega
            exact e
  | succ m ih =>
    by_cases g : k = m + 1
    · subst g; exact e
    · exact h m r (ih (by omega))
theorem mem_compact {z : List UInt8} {zs : List (List UInt8)} : z ∈ Lib.compact zs ↔ z ∈ zs := by
  unfold Lib.compact Lib.compactUpTo
  simp only [List.mem_map, List.mem_filter, List.mem_range]
  constructor
  · rintro ⟨j, ⟨hj, _⟩, rfl⟩
    rw [getElem!_pos zs.toArray j (by simpa using hj)]
    simp
  · intro h
    obtain ⟨j, hj, e⟩ := List.getElem_of_mem h
    induction j with
    | zero => exact ⟨0, ⟨hj, by simp [Lib.keeps]⟩, by rw [getElem!_pos zs.toArray 0 (by simpa using hj)]; simpa using e⟩
    | succ j ih =>
      by_cases g : Lib.keeps zs.toArray (j + 1) = true
      · exact ⟨j + 1, ⟨hj, g⟩, by rw [getElem!_pos zs.toArray (j + 1) (by simpa using hj)]; simpa using e⟩
      · refine ih (by omega) ?_
        simp only [Lib.keeps] at g
        simp at g
        have h1 : zs.toArray[j]! = zs[j]'(by omega) := by rw [getElem!_pos zs.toArray j (by simp; omega)]; simp
        have h2 : zs.toArray[j + 1]! = zs[j + 1] := by rw [getElem!_pos zs.toArray (j + 1) (by simpa using hj)]; simp
        simp_all
def has (l : List S27) (n : ByteArray) : Bool := l.any fun y => y.f0.toList == n.toList
theorem fnd_any (q : S27 → Bool) : ∀ (l : List S27) (i : Nat), ∃ r, fnd (fun y => some (q y)) l i = some r ∧ decide (0 ≤ r) = l.any q
  | [], i => ⟨-1, rfl, rfl⟩
  | y :: t, i => by
    simp only [fnd, Option.bind_some, List.any_cons]
    by_cases h : q y = true
    · exact ⟨i, by rw [if_pos h], by simp [h]⟩
    · obtain ⟨r, e, g⟩ := fnd_any q t (i + 1)
      exact ⟨r, by rw [if_neg h, e], by simp [h, g]⟩
theorem allHave_f (l : List S27) : ∀ ns, allHave l ns = some (ns.all (has l))
  | [] => rfl
  | n :: t => by
    obtain ⟨r, e, g⟩ := fnd_any (fun y => y.f0.toList == n.toList) l 0
    simp only [allHave, e, Option.bind_some, List.all_cons]
    have g' : decide (0 ≤ r) = has l n := g
    by_cases h : 0 ≤ r
    · rw [if_pos h, allHave_f l t, ← g']; simp [h]
    · rw [if_neg h, ← g']; simp [h]
theorem toL (b : ByteArray) : (⟨b.data.toList.toArray⟩ : ByteArray) = b := by obtain ⟨⟨l⟩⟩ := b; rfl
theorem names_all (l : List S27) (r : List ByteArray) : (((sortNames r).map fun b => (⟨b.toArray⟩ : ByteArray)).all (has l)) = r.all (has l) := by
  rw [Bool.eq_iff_iff]
  simp only [List.all_eq_true, List.mem_map]
  have m : ∀ z, z ∈ sortNames r ↔ ∃ b ∈ r, b.data.toList = z := by
    intro z
    unfold sortNames
    rw [mem_compact, List.mem_mergeSort, List.mem_map]
  constructor
  · intro h b hb
    exact h b ⟨b.data.toList, (m _).mpr ⟨b, hb, rfl⟩, toL b⟩
  · rintro h _ ⟨z, hz, rfl⟩
    obtain ⟨b, hb, rfl⟩ := (m z).mp hz
    rw [toL]; exact h b hb
def uns (y : S27) : Bool := !vsd y.f1.f0 y.f1.f1.f0 y.f1.f1.f1 y.f1.f2 y.f1.f3
theorem unsound_f {k : Nat} (hk : 10 ≤ k) : unsound27 k = fun y => some (uns y) := by
  funext y
  unfold unsound27 uns
  rw [vsound_f hk]; rfl
theorem eval_f {k : Nat} (hk : 10 ≤ k) {a0 a1 a2 a3 : Int} {a4 : ByteArray} {a5 : Int} {a6 : ByteArray} {l7 : List S31} {l1 : List S27} (hl : l1.length < 4611686018427387904) {ok : Bool} (hs : expr_Sound.f k a0 a1 a2 a3 a4 a5 a6 l7 = some ok) :
    calc_Eval.f k a0 a1 a2 a3 a4 a5 a6 l7 l1 = if ok = true then if l1.any uns = true then some (0, 0, 0, ⟨#[]⟩, 0, 2) else (expr_names.f k a0 a1 a2 a3 a4 a5 a6 l7).bind fun r => if r.length < 4611686018427387904 then
      if r.all (has l1) = true then (calc_scope_eval.f k l1 a0 a1 a2 a3 a4 a5 a6 l7).bind fun v => some (v.1, v.2.1, v.2.2.1, v.2.2.2.1, v.2.2.2.2, 0) else some (0, 0, 0, ⟨#[]⟩, 0, 7) else none else some (0, 0, 0, ⟨#[]⟩, 0, 2) := by
  unfold calc_Eval.f expr_Names.f
  rw [hs]
  simp only [Option.bind_some]
  by_cases ho : ok = true
  · rw [if_pos ho, if_pos ho, if_pos hl, if_pos ho, unsound_f hk]
    obtain ⟨r, e, g⟩ := fnd_any uns l1 0
    rw [e]
    simp only [Option.bind_some]
    by_cases h : 0 ≤ r
    · rw [if_pos h, if_pos (by rw [← g]; simpa using h)]
    · rw [if_neg h, if_neg (by rw [← g]; simpa using h)]
      cases hn : expr_names.f k a0 a1 a2 a3 a4 a5 a6 l7 with
      | none => rfl
      | some ns =>
        simp only [Option.bind_some]
        by_cases hb : ns.length < 4611686018427387904
        · rw [if_pos hb, if_pos hb]
          simp only [Option.bind_some]
          rw [allHave_f, names_all]
          rfl
        · rw [if_neg hb, if_neg hb]; rfl
  · rw [if_neg ho, if_neg ho]
end Go.Proofs.YtgkemhgihbfmmaaGreatDoor.PA
end
section
namespace Go.Proofs.YtgkemhgihbfmmaaGreatDoor.PA
open Go.RowKit Go.Proofs.YtgkemhgihbfmmaaGreatDoorW.PrintWords Go.Proofs.YtgkemhgihbfmmaaGreatDoorW.PrintLast Go.Proofs.YtgkemhgihbfmmaaGreatDoorW.PrintMore
def awakeText : ByteArray := ⟨#[105, 102, 32, 97, 32, 62, 32, 50, 32, 116, 104, 101, 110, 32, 97, 32, 42, 32, 50, 46, 53, 32, 101, 108, 115, 101, 32, 110, 117, 108, 108]⟩
def bare (op : Int) (kids : List S31) : S31 := ⟨op, ⟨0, ⟨0, 0⟩, ⟨#[]⟩, 0⟩, ⟨#[]⟩, kids⟩
def num (n s : Int) : S31 := ⟨1, ⟨1, ⟨n, s⟩, ⟨#[]⟩, 0⟩, ⟨#[]⟩, []⟩
def nul : S31 := ⟨1, ⟨0, ⟨0, 0⟩, ⟨#[]⟩, 0⟩, ⟨#[]⟩, []⟩
def nam (b : UInt8) : S31 := ⟨2, ⟨0, ⟨0, 0⟩, ⟨#[]⟩, 0⟩, ⟨#[b]⟩, []⟩
def awakeKids : List S31 := [bare 12 [nam 97, num 2 0], bare 6 [nam 97, num 25 1], nul]
set_option maxRecDepth 100000 in
theorem awake_parse : expr_Parse.f 200 awakeText = some (17, 0, 0, 0, ⟨#[]⟩, 0, ⟨#[]⟩, awakeKids, 0, 0) := by kernel_rfl
set_option maxRecDepth 100000 in
theorem awake_sound : expr_Sound.f 200 17 0 0 0 ⟨#[]⟩ 0 ⟨#[]⟩ awakeKids = some true := by kernel_rfl
set_option maxRecDepth 100000 in
theorem awake_names : expr_names.f 200 17 0 0 0 ⟨#[]⟩ 0 ⟨#[]⟩ awakeKids = some [⟨#[97]⟩, ⟨#[97]⟩] := by kernel_rfl
def awakeList : List S27 := [⟨⟨#[97]⟩, ⟨1, ⟨3, 0⟩, ⟨#[]⟩, 0⟩⟩]
set_option maxRecDepth 100000 in
theorem awake_val : calc_scope_eval.f 200 awakeList 17 0 0 0 ⟨#[]⟩ 0 ⟨#[]⟩ awakeKids = some (1, 75, 1, ⟨#[]⟩, 0) := by kernel_rfl
theorem awake_eval : calc_Eval.f 200 17 0 0 0 ⟨#[]⟩ 0 ⟨#[]⟩ awakeKids awakeList = some (1, 75, 1, ⟨#[]⟩, 0, 0) := by
  rw [eval_f (by decide) (by decide) awake_sound, if_pos rfl, if_neg (by decide +kernel), awake_names]
  simp only [Option.bind_some]
  rw [if_pos (by decide), if_pos (by decide +kernel), awake_val]
  rfl
theorem awake_f {k : Nat} (hk : 200 ≤ k) : soffitlaw11_awake.f k = some true := by
  refine up (fun k => soffitlaw11_awake.mono k) hk ?_
  unfold soffitlaw11_awake.f
  refine Option.bind_eq_some_iff.mpr ⟨_, awake_parse, ?_⟩
  refine Option.bind_eq_some_iff.mpr ⟨_, awake_eval, ?_⟩
  kernel_rfl
end Go.Proofs.YtgkemhgihbfmmaaGreatDoor.PA
end
section
namespace Go.Proofs.YtgkemhgihbfmmaaGreatDoor.PA
open Go.RowKit Go.Proofs.YtgkemhgihbfmmaaGreatDoorW.PrintWords Go.Proofs.YtgkemhgihbfmmaaGreatDoorW.PrintLast Go.Proofs.YtgkemhgihbfmmaaGreatDoorW.PrintMore
open Go.Proofs.YtgkemhgihbfmmaaGreatDoor.M
theorem all_two {k : Nat} (hk : 15 ≤ k) (n s n' s' : Int) : deci_all.f k [⟨n, s⟩, ⟨n', s'⟩] = some (if Snd n s ∧ Snd n' s' then 0 else 2) := by
  obtain ⟨k, rfl⟩ : ∃ m, k = m + 3 := ⟨k - 3, by omega⟩
  have w1 : wrap64 (0 + 1) = 1 := w64 (by decide) (by decide)
  have w2 : wrap64 (1 + 1) = 2 := w64 (by decide) (by decide)
  unfold deci_all.f
  simp only [deci_all.l0, List.length_cons, List.length_nil, w1, w2]
  have e0 : rd_T23 [(⟨n, s⟩ : S23), ⟨n', s'⟩] 0 = ⟨n, s⟩ := rfl
  have e1 : rd_T23 [(⟨n, s⟩ : S23), ⟨n', s'⟩] 1 = ⟨n', s'⟩ := rfl
  rw [if_pos (by decide), if_pos (by decide), if_pos (by decide), e0, sound_f (by omega)]
  simp only [Option.bind_some, decide_eq_true_eq]
  by_cases h : Snd n s
  · rw [if_pos h, if_pos (by decide), if_pos (by decide), if_pos (by decide), e1, sound_f (by omega)]
    simp only [Option.bind_some, decide_eq_true_eq]
    by_cases h' : Snd n' s'
    · rw [if_pos h', if_neg (by decide)]; simp only [h, h', and_self, if_true]
    · rw [if_neg h']; simp only [h, h', and_false, if_false]
  · rw [if_neg h]; simp only [h, false_and, if_false]
theorem power_l0 (d : Nat) : ∀ (k i : Nat), d < k → i + d ≤ 18 → deci_power.l0 k (10 ^ i) ((i + d : Nat) : Int) (i : Int) = some (10 ^ (i + d)) := by
  have hp : ∀ j : Nat, j ≤ 18 → (10 : Int) ^ j ≤ 1000000000000000000 := fun j h => by
    have h1 : (10 : Int) ^ 18 = 10 ^ j * 10 ^ (18 - j) := by rw [← Int.pow_add]; congr 1; omega
    have h2 := pow_pos j; have h3 := pow_pos (18 - j)
    have h4 : 10 ^ j * 1 ≤ (10 : Int) ^ j * 10 ^ (18 - j) := Int.mul_le_mul_of_nonneg_left (by omega) (by omega)
    have h5 : (10 : Int) ^ 18 = 1000000000000000000 := by decide
    omega
  induction d with
  | zero =>
    intro k i hk hi
    obtain ⟨k, rfl⟩ := succ_of (show 0 < k by omega)
    simp only [deci_power.l0]; rw [if_neg (by omega)]; simp
  | succ d ih =>
    intro k i hk hi
    obtain ⟨k, rfl⟩ := succ_of (show 0 < k by omega)
    simp only [deci_power.l0]
    have h1 := hp (i + 1) (by omega); have h2 := pow_pos (i + 1)
    rw [if_pos (by omega), ← Int.pow_succ, wu64 (by omega) (by omega), w64 (by omega) (by omega)]
    have := ih k (i + 1) (by omega) (by omega)
    rw [show ((i + 1 : Nat) : Int) = (i : Int) + 1 by omega, show i + 1 + d = i + (d + 1) by omega] at this
    exact this
theorem power_f {k : Nat} (hk : 20 ≤ k) {n : Int} (h0 : 0 ≤ n) (h1 : n ≤ 18) : deci_power.f k n = some (10 ^ n.toNat) := by
  obtain ⟨t, rfl⟩ := Int.eq_ofNat_of_zero_le h0
  have := power_l0 t k 0 (by omega) (by omega)
  simp only [Nat.zero_add, Int.pow_zero] at this
  unfold deci_power.f; rw [Int.toNat_natCast]; exact this
end Go.Proofs.YtgkemhgihbfmmaaGreatDoor.PA
end
section
namespace Go.Proofs.YtgkemhgihbfmmaaGreatDoor.PA
open Go.RowKit Go.Proofs.YtgkemhgihbfmmaaGreatDoorW.PrintWords Go.Proofs.YtgkemhgihbfmmaaGreatDoorW.PrintLast Go.Proofs.YtgkemhgihbfmmaaGreatDoorW.PrintMore
open Go.Proofs.YtgkemhgihbfmmaaGreatDoor.M
theorem pow_le {a b : Nat} (h : a ≤ b) : (10 : Int) ^ a ≤ 10 ^ b := by
  obtain ⟨c, rfl⟩ := Nat.exists_eq_add_of_le h
  rw [Int.pow_add]
  have h1 := pow_pos a; have h2 := pow_pos c
  have h3 : (10 : Int) ^ a * 1 ≤ 10 ^ a * 10 ^ c := Int.mul_le_mul_of_nonneg_left (by omega) (by omega)
  omega
theorem pow_6 {a : Nat} (h : a ≤ 6) : 1 ≤ (10 : Int) ^ a ∧ (10 : Int) ^ a ≤ 1000000 := by
  have h1 := pow_pos a; have h2 := pow_le h
  have e : (10 : Int) ^ 6 = 1000000 := by decide
  omega
def un (n s : Int) : Int := n * 10 ^ (6 - s).toNat
theorem mul_bound {n p N P : Int} (h1 : -N ≤ n) (h2 : n ≤ N) (h3 : 0 ≤ p) (h4 : p ≤ P) (hN : 0 ≤ N) : -(N * P) ≤ n * p ∧ n * p ≤ N * P := by
  have a1 : n * p ≤ N * p := Int.mul_le_mul_of_nonneg_right h2 h3
  have a2 : N * p ≤ N * P := Int.mul_le_mul_of_nonneg_left h4 hN
  have a3 : -N * p ≤ n * p := Int.mul_le_mul_of_nonneg_right h1 h3
  rw [Int.neg_mul] at a3; omega
theorem un_bound {n s : Int} (h : Snd n s) : -999999999999000000 ≤ un n s ∧ un n s ≤ 999999999999000000 := by
  obtain ⟨h0, h1, h2, h3, _⟩ := h
  have hp := pow_6 (a := (6 - s).toNat) (by omega)
  have := mul_bound (N := 999999999999) (P := 1000000) h2 h3 (by omega) hp.2 (by decide)
  unfold un; omega
theorem units_f {k : Nat} (hk : 40 ≤ k) {n s : Int} (h : Snd n s) : deci_units.f k n s = some (un n s) := by
  have hb := un_bound h
  obtain ⟨h0, h1, h2, h3, _⟩ := h
  have hp := pow_6 (a := (6 - s).toNat) (by omega)
  unfold deci_units.f
  rw [w64 (by omega) (by omega), power_f (by omega) (by omega) (by omega)]
  simp only [obs]
  rw [w64 (x := (10 : Int) ^ (6 - s).toNat) (by omega) (by omega)]
  rw [show n * 10 ^ (6 - s).toNat = un n s from rfl, w64 (by omega) (by omega)]
def cmpS (n s n' s' : Int) : Int × Int :=
  if Snd n s ∧ Snd n' s' then (if un n s < un n' s' then -1 else if un n' s' < un n s then 1 else 0, 0) else (0, 2)
theorem compare_ff {k : Nat} (hk : 40 ≤ k) (n s n' s' : Int) : deci_Compare.f k n s n' s' = some (cmpS n s n' s') := by
  unfold deci_Compare.f cmpS
  rw [all_two (by omega)]
  simp only [obs]
  by_cases h : Snd n s ∧ Snd n' s'
  · rw [if_pos h, if_pos rfl, if_pos h, units_f hk h.1, units_f hk h.2]
    simp only [obs]
    unfold cmp_Compare_int.f cmp_isNaN_int.f
    simp only [bne_self_eq_false, obs, Bool.false_eq_true, if_false]
    by_cases g : un n s < un n' s'
    · simp [g]
    · by_cases g2 : un n' s' < un n s
      · simp [g, g2]
      · simp [g, g2]
  · rw [if_neg h, if_neg (by decide), if_neg h]
end Go.Proofs.YtgkemhgihbfmmaaGreatDoor.PA
end
section
namespace Go.Proofs.YtgkemhgihbfmmaaGreatDoor.PA
open Go.RowKit Go.Proofs.YtgkemhgihbfmmaaGreatDoorW.PrintWords Go.Proofs.YtgkemhgihbfmmaaGreatDoorW.PrintLast Go.Proofs.YtgkemhgihbfmmaaGreatDoorW.PrintMore
open Go.Proofs.YtgkemhgihbfmmaaGreatDoor.M
def ordv (a n s : Int) (t : ByteArray) (x n' s' : Int) (t' : ByteArray) (x' : Int) : Int :=
  if a = 1 then (if un n s < un n' s' then -1 else if un n' s' < un n s then 1 else 0)
  else if Op.bytesLess t.toList t'.toList = true then -1 else if Op.bytesLess t'.toList t.toList = true then 1 else if x < x' then -1 else if x' < x then 1 else 0
theorem cmpint_f (x y : Int) : cmp_Compare_int.f x y = some (if x < y then -1 else if y < x then 1 else 0) := by
  unfold cmp_Compare_int.f cmp_isNaN_int.f
  simp only [bne_self_eq_false, obs, Bool.false_eq_true, if_false]
  by_cases g : x < y
  · simp [g]
  · by_cases g2 : y < x
    · simp [g, g2]
    · simp [g, g2]
theorem cmpstr_f (x y : ByteArray) : cmp_Compare_string.f x y = some (if Op.bytesLess x.toList y.toList = true then -1 else if Op.bytesLess y.toList x.toList = true then 1 else 0) := by
  unfold cmp_Compare_string.f cmp_isNaN_string.f
  simp only [bne_self_eq_false, obs, Bool.false_eq_true, if_false]
  split
  · rfl
  · split <;> rfl
theorem cmpor_f {k : Nat} (hk : 4 ≤ k) (x y : Int) : cmp_Or_int.f k [x, y] = some (if x = 0 then y else x) := by
  obtain ⟨k, rfl⟩ : ∃ m, k = m + 3 := ⟨k - 3, by omega⟩
  unfold cmp_Or_int.f
  simp only [cmp_Or_int.l0, List.length_cons, List.length_nil]
  have e0 : rd [x, y] 0 = x := rfl
  have e1 : rd [x, y] (wrap64 (0 + 1)) = y := by rw [w64 (by decide) (by decide)]; rfl
  rw [if_pos (by decide +kernel), if_pos (by decide +kernel), if_pos (by decide +kernel), e0, e1]
  by_cases h : x = 0
  · rw [if_pos h, if_pos h, if_pos (by decide +kernel), if_pos (by decide +kernel), if_pos (by decide +kernel)]
    by_cases g : y = 0
    · rw [if_pos g, if_neg (by decide +kernel), g]
    · rw [if_neg g]
  · rw [if_neg h, if_neg h]
theorem order_f {k : Nat} (hk : 50 ≤ k) (a n s : Int) (t : ByteArray) (x n' s' : Int) (t' : ByteArray) (x' : Int) (h : vsd a n s t x = true) (h' : vsd a n' s' t' x' = true) :
    value_order.f k a n s t x a n' s' t' x' = some (ordv a n s t x n' s' t' x') := by
  unfold value_order.f ordv
  rw [if_pos rfl]
  by_cases h1 : a = 1
  · rw [if_pos h1, if_pos h1, compare_ff (by omega)]
    have q : Snd n s := by subst h1; simp only [vsd] at h; simp at h; exact h.1.1
    have q' : Snd n' s' := by subst h1; simp only [vsd] at h'; simp at h'; exact h'.1.1
    unfold cmpS
    rw [if_pos ⟨q, q'⟩]; rfl
  · rw [if_neg h1, if_neg h1, cmpstr_f, cmpint_f]
    simp only [Option.bind_some]
    rw [cmpor_f (by omega)]
    simp only [Option.bind_some]
    congr 1
    by_cases g : Op.bytesLess t.toList t'.toList = true
    · rw [if_pos g, if_pos g]; rfl
    · rw [if_neg g, if_neg g]
      by_cases g2 : Op.bytesLess t'.toList t.toList = true
      · rw [if_pos g2, if_pos g2]; rfl
      · rw [if_neg g2, if_neg g2]; rfl
def trv (b : Bool) : Int × Int × Int × ByteArray × Int := (3, 0, 0, ⟨#[]⟩, if b = true then 1 else 0)
def nov : Int × Int × Int × ByteArray × Int := (0, 0, 0, ⟨#[]⟩, 0)
theorem truth_f (b : Bool) : logic_Truth.f b = some (trv b) := by
  unfold logic_Truth.f trv
  cases b <;> rfl
def lessv (a n s : Int) (t : ByteArray) (x a' n' s' : Int) (t' : ByteArray) (x' : Int) : Option Bool :=
  if vsd a n s t x = true ∧ vsd a' n' s' t' x' = true ∧ a = a' ∧ a ≠ 0 ∧ a ≠ 3 then some (decide (ordv a n s t x n' s' t' x' < 0)) else none
def outv (o : Option Bool) : Int × Int × Int × ByteArray × Int := match o with
  | some b => trv b
  | none => nov
theorem less_vf {k : Nat} (hk : 50 ≤ k) (a n s : Int) (t : ByteArray) (x a' n' s' : Int) (t' : ByteArray) (x' : Int) :
    calc_Less.f k a n s t x a' n' s' t' x' = some (outv (lessv a n s t x a' n' s' t' x')) := by
  obtain ⟨k, rfl⟩ : ∃ m, k = m + 1 := ⟨k - 1, by omega⟩
  have j : ∀ (c : Int) (b : Bool), calc_Less.j0 (k + 1) c b = some (if b = true then nov else trv (decide (c < 0))) := by
    intro c b
    rw [calc_Less.j0, truth_f]
    cases b <;> rfl
  unfold calc_Less.f value_Compare.f
  rw [vsound_f (by omega), vsound_f (by omega)]
  simp only [Option.bind_some, j]
  by_cases h : vsd a n s t x = true
  · by_cases h' : vsd a' n' s' t' x' = true
    · rw [if_pos h, if_pos h']
      by_cases e : a = a'
      · subst e
        rw [order_f (by omega) _ _ _ _ _ _ _ _ _ h h']
        simp only [Option.bind_some, if_true]
        by_cases e0 : a = 0
        · rw [show lessv a n s t x a n' s' t' x' = none from if_neg (fun q => q.2.2.2.1 e0), if_pos e0]; rfl
        · by_cases e3 : a = 3
          · rw [show lessv a n s t x a n' s' t' x' = none from if_neg (fun q => q.2.2.2.2 e3), if_neg e0, e3]; rfl
          · rw [show lessv a n s t x a n' s' t' x' = some _ from if_pos ⟨h, h', rfl, e0, e3⟩, if_neg e0, show (a == 3) = false from beq_eq_false_iff_ne.mpr e3]; rfl
      · have : value_order.f (k + 1) a n s t x a' n' s' t' x' = some (if a < a' then -1 else if a' < a then 1 else 0) := by
          unfold value_order.f
          rw [if_neg e, cmpint_f]; rfl
        rw [this]
        simp only [Option.bind_some, if_true]
        rw [if_neg e, show lessv a n s t x a' n' s' t' x' = none from if_neg (fun q => e q.2.2.1)]; rfl
    · rw [if_pos h, if_neg h', show lessv a n s t x a' n' s' t' x' = none from if_neg (fun q => h' q.2.1)]; simp only [Option.bind_some]; rw [if_neg (by decide)]; rfl
  · rw [if_neg h, show lessv a n s t x a' n' s' t' x' = none from if_neg (fun q => h q.1)]; simp only [Option.bind_some]; rw [if_neg (by decide)]; rfl
def same5 (a n s : Int) (t : ByteArray) (x a' n' s' : Int) (t' : ByteArray) (x' : Int) : Bool := a == a' && ((n == n' && s == s') && (t.toList == t'.toList && x == x'))
def eqv (a n s : Int) (t : ByteArray) (x a' n' s' : Int) (t' : ByteArray) (x' : Int) : Option Bool :=
  if vsd a n s t x = true ∧ vsd a' n' s' t' x' = true ∧ (a = 0 ∨ a' = 0 ∨ a = a') then some (same5 a n s t x a' n' s' t' x') else none
theorem equal_vf {k : Nat} (hk : 50 ≤ k) (a n s : Int) (t : ByteArray) (x a' n' s' : Int) (t' : ByteArray) (x' : Int) :
    calc_Equal.f k a n s t x a' n' s' t' x' = some (outv (eqv a n s t x a' n' s' t' x')) := by
  obtain ⟨k, rfl⟩ : ∃ m, k = m + 3 := ⟨k - 3, by omega⟩
  have j2 : ∀ b : Bool, calc_Equal.j2 (k + 1) b a n s t x a' n' s' t' x' = some (if b = true then trv (same5 a n s t x a' n' s' t' x') else nov) := by
    intro b
    rw [calc_Equal.j2, truth_f]
    cases b <;> rfl
  have j1 : ∀ b : Bool, calc_Equal.j1 (k + 2) b a n s t x a' n' s' t' x' = some (if b = true ∨ a = a' then trv (same5 a n s t x a' n' s' t' x') else nov) := by
    intro b
    rw [calc_Equal.j1]
    cases b
    · rw [if_neg (by simp), j2]; by_cases e : a = a' <;> simp [e]
    · rw [if_pos rfl, j2]; simp
  have j0 : ∀ b : Bool, calc_Equal.j0 (k + 3) b a n s t x a' n' s' t' x' = some (if b = true then nov else if a = 0 ∨ a' = 0 ∨ a = a' then trv (same5 a n s t x a' n' s' t' x') else nov) := by
    intro b
    rw [calc_Equal.j0]
    cases b
    · rw [if_neg (by simp)]
      by_cases e : a = 0
      · rw [if_pos e, j1]; simp [e]
      · rw [if_neg e, j1]; by_cases e' : a' = 0 <;> simp [e, e']
    · rw [if_pos rfl]; rfl
  unfold calc_Equal.f eqv
  rw [vsound_f (by omega), vsound_f (by omega)]
  simp only [Option.bind_some, j0]
  cases h : vsd a n s t x <;> cases h' : vsd a' n' s' t' x'
  · simp [outv]
  · simp [outv]
  · simp [outv]
  · by_cases e : a = 0 ∨ a' = 0 ∨ a = a' <;> simp [e, outv]
end Go.Proofs.YtgkemhgihbfmmaaGreatDoor.PA
end
section
namespace Go.Proofs.YtgkemhgihbfmmaaGreatDoor.PA
open Go.RowKit Go.Proofs.YtgkemhgihbfmmaaGreatDoorW.PrintWords Go.Proofs.YtgkemhgihbfmmaaGreatDoorW.PrintLast Go.Proofs.YtgkemhgihbfmmaaGreatDoorW.PrintMore
open Go.Proofs.YtgkemhgihbfmmaaGreatDoor.M
theorem not_vf (o : Option Bool) : logic_Not.f (outv o).1 (outv o).2.1 (outv o).2.2.1 (outv o).2.2.2.1 (outv o).2.2.2.2 = some (outv (o.map not)) := by
  cases o with
  | none => kernel_rfl
  | some b => cases b <;> kernel_rfl
theorem eqv_comm (a n s : Int) (t : ByteArray) (x a' n' s' : Int) (t' : ByteArray) (x' : Int) : eqv a n s t x a' n' s' t' x' = eqv a' n' s' t' x' a n s t x := by
  have e : same5 a n s t x a' n' s' t' x' = same5 a' n' s' t' x' a n s t x := by
    unfold same5; rw [Bool.beq_comm (a := a), Bool.beq_comm (a := n), Bool.beq_comm (a := s), Bool.beq_comm (a := t.toList), Bool.beq_comm (a := x)]
  unfold eqv
  rw [e]
  by_cases h : vsd a n s t x = true ∧ vsd a' n' s' t' x' = true ∧ (a = 0 ∨ a' = 0 ∨ a = a')
  · rw [if_pos h, if_pos ⟨h.2.1, h.1, h.2.2.elim (fun q => .inr (.inl q)) (fun q => q.elim .inl (fun q => .inr (.inr q.symm)))⟩]
  · rw [if_neg h, if_neg (fun g => h ⟨g.2.1, g.1, g.2.2.elim (fun q => .inr (.inl q)) (fun q => q.elim .inl (fun q => .inr (.inr q.symm)))⟩)]
section
variable (A B : Int × Int × Int × ByteArray × Int)
def sidesList : List S27 := [⟨⟨#[97]⟩, ⟨A.1, ⟨A.2.1, A.2.2.1⟩, A.2.2.2.1, A.2.2.2.2⟩⟩, ⟨⟨#[98]⟩, ⟨B.1, ⟨B.2.1, B.2.2.1⟩, B.2.2.2.1, B.2.2.2.2⟩⟩]
def nv (p : UInt8) : Int × Int × Int × ByteArray × Int := if p = 97 then A else B
theorem nam_eval (k : Nat) (p : UInt8) (hp : p = 97 ∨ p = 98) : calc_scope_eval.f (k + 1) (sidesList A B) (nam p).f0 (nam p).f1.f0 (nam p).f1.f1.f0 (nam p).f1.f1.f1 (nam p).f1.f2 (nam p).f1.f3 (nam p).f2 (nam p).f3 = some (nv A B p) := by
  have n : ∀ (i : Nat) (v : S25), standin_IndexName.f (sidesList A B) 2 0 0 0 ⟨#[]⟩ 0 ⟨#[p]⟩ [] = some (i : Int) → i < 2 → rd_T27 (sidesList A B) (i : Int) = ⟨⟨#[p]⟩, v⟩ →
      calc_scope_eval.f (k + 1) (sidesList A B) 2 0 0 0 ⟨#[]⟩ 0 ⟨#[p]⟩ [] = some (v.f0, v.f1.f0, v.f1.f1, v.f2, v.f3) := by
    intro i v h1 h2 h3
    rw [calc_scope_eval.f, if_neg (by decide), if_pos rfl, h1]
    simp only [Option.bind_some]
    rw [if_pos (by omega), if_pos (by show (i : Int) < 2; omega), h3]
  rcases hp with rfl | rfl
  · exact n 0 ⟨A.1, ⟨A.2.1, A.2.2.1⟩, A.2.2.2.1, A.2.2.2.2⟩ (by kernel_rfl) (by decide) (by kernel_rfl)
  · exact n 1 ⟨B.1, ⟨B.2.1, B.2.2.1⟩, B.2.2.2.1, B.2.2.2.2⟩ (by kernel_rfl) (by decide) (by kernel_rfl)
def evB (k : Nat) (op : Int) (kids : List S31) : Option (Int × Int × Int × ByteArray × Int) := calc_scope_eval.f k (sidesList A B) op 0 0 0 ⟨#[]⟩ 0 ⟨#[]⟩ kids
def LS (p q : UInt8) : Option Bool := lessv (nv A B p).1 (nv A B p).2.1 (nv A B p).2.2.1 (nv A B p).2.2.2.1 (nv A B p).2.2.2.2 (nv A B q).1 (nv A B q).2.1 (nv A B q).2.2.1 (nv A B q).2.2.2.1 (nv A B q).2.2.2.2
def EQ (p q : UInt8) : Option Bool := eqv (nv A B p).1 (nv A B p).2.1 (nv A B p).2.2.1 (nv A B p).2.2.2.1 (nv A B p).2.2.2.2 (nv A B q).1 (nv A B q).2.1 (nv A B q).2.2.1 (nv A B q).2.2.2.1 (nv A B q).2.2.2.2
theorem ev_two (k : Nat) (hk : 50 ≤ k) (op : Int) (p q : UInt8) (hp : p = 97 ∨ p = 98) (hq : q = 97 ∨ q = 98) (ho : 8 ≤ op ∧ op ≤ 13) : evB A B (k + 1) op [nam p, nam q] =
    some (outv (if op = 8 then EQ A B p q else if op = 9 then (EQ A B p q).map not else if op = 10 then LS A B p q else if op = 12 then LS A B q p else if op = 11 then (LS A B q p).map not else (LS A B p q).map not)) := by
  obtain ⟨k, rfl⟩ : ∃ m, k = m + 1 := ⟨k - 1, by omega⟩
  unfold evB
  rw [calc_scope_eval.f, if_neg (by omega), if_neg (by omega), if_neg (by omega), if_pos (by show (0 : Int) < ((2 : Nat) : Int); decide)]
  rw [show calc_scope_eval.f (k + 1) (sidesList A B) (rd_T31 [nam p, nam q] 0).f0 (rd_T31 [nam p, nam q] 0).f1.f0 (rd_T31 [nam p, nam q] 0).f1.f1.f0 (rd_T31 [nam p, nam q] 0).f1.f1.f1 (rd_T31 [nam p, nam q] 0).f1.f2 (rd_T31 [nam p, nam q] 0).f1.f3 (rd_T31 [nam p, nam q] 0).f2 (rd_T31 [nam p, nam q] 0).f3 = _ from nam_eval A B k p hp]
  simp only [Option.bind_some]
  rw [if_neg (by omega), if_neg (by omega), if_pos (by show (1 : Int) < ((2 : Nat) : Int); decide)]
  rw [show calc_scope_eval.f (k + 1) (sidesList A B) (rd_T31 [nam p, nam q] 1).f0 (rd_T31 [nam p, nam q] 1).f1.f0 (rd_T31 [nam p, nam q] 1).f1.f1.f0 (rd_T31 [nam p, nam q] 1).f1.f1.f1 (rd_T31 [nam p, nam q] 1).f1.f2 (rd_T31 [nam p, nam q] 1).f1.f3 (rd_T31 [nam p, nam q] 1).f2 (rd_T31 [nam p, nam q] 1).f3 = _ from nam_eval A B k q hq]
  simp only [Option.bind_some]
  rw [less_vf hk, less_vf hk, equal_vf hk]
  simp only [Option.bind_some, not_vf]
  have c : op = 8 ∨ op = 9 ∨ op = 10 ∨ op = 11 ∨ op = 12 ∨ op = 13 := by omega
  rcases c with rfl | rfl | rfl | rfl | rfl | rfl <;> rfl
theorem ev_not (k : Nat) (op : Int) (kids : List S31) (o : Option Bool) (h : evB A B k op kids = some (outv o)) : evB A B (k + 1) 16 [bare op kids] = some (outv (o.map not)) := by
  unfold evB at h ⊢
  rw [calc_scope_eval.f, if_neg (by decide), if_neg (by decide), if_neg (by decide), if_pos (by show (0 : Int) < ((1 : Nat) : Int); decide)]
  rw [show calc_scope_eval.f k (sidesList A B) (rd_T31 [bare op kids] 0).f0 (rd_T31 [bare op kids] 0).f1.f0 (rd_T31 [bare op kids] 0).f1.f1.f0 (rd_T31 [bare op kids] 0).f1.f1.f1 (rd_T31 [bare op kids] 0).f1.f2 (rd_T31 [bare op kids] 0).f1.f3 (rd_T31 [bare op kids] 0).f2 (rd_T31 [bare op kids] 0).f3 = _ from h]
  simp only [Option.bind_some]
  rw [if_neg (by decide), if_pos trivial, not_vf]
  rfl
theorem sides_eval {k : Nat} (hk : 10 ≤ k) {op : Int} {kids : List S31} {ns : List ByteArray} {o : Option Bool} (hs : expr_Sound.f k op 0 0 0 ⟨#[]⟩ 0 ⟨#[]⟩ kids = some true) (hn : expr_names.f k op 0 0 0 ⟨#[]⟩ 0 ⟨#[]⟩ kids = some ns) (hl : ns.length < 100) (hb : ns.all (has (sidesList A B)) = true) (hv : evB A B k op kids = some (outv o)) :
    calc_Eval.f k op 0 0 0 ⟨#[]⟩ 0 ⟨#[]⟩ kids (sidesList A B) = some (if (sidesList A B).any uns = true then (0, 0, 0, ⟨#[]⟩, 0, 2) else ((outv o).1, (outv o).2.1, (outv o).2.2.1, (outv o).2.2.2.1, (outv o).2.2.2.2, 0)) := by
  rw [eval_f hk (by show 2 < _; decide) hs, if_pos rfl]
  by_cases h : (sidesList A B).any uns = true
  · rw [if_pos h, if_pos h]
  · rw [if_neg h, if_neg h, hn]
    simp only [Option.bind_some]
    rw [if_pos (by omega), if_pos hb]
    unfold evB at hv
    rw [hv]; rfl
def sidesPairs : List (List ByteArray) := [[⟨#[97, 32, 60, 32, 98]⟩, ⟨#[98, 32, 62, 32, 97]⟩], [⟨#[97, 32, 60, 61, 32, 98]⟩, ⟨#[110, 111, 116, 40, 98, 32, 60, 32, 97, 41]⟩], [⟨#[97, 32, 62, 61, 32, 98]⟩, ⟨#[98, 32, 60, 61, 32, 97]⟩], [⟨#[97, 32, 33, 61, 32, 98]⟩, ⟨#[110, 111, 116, 40, 97, 32, 61, 32, 98, 41]⟩], [⟨#[97, 32, 61, 32, 98]⟩, ⟨#[98, 32, 61, 32, 97]⟩], [⟨#[97, 32, 60, 32, 98]⟩, ⟨#[110, 111, 116, 40, 110, 111, 116, 40, 97, 32, 60, 32, 98, 41, 41]⟩]]
theorem sides_step (k : Nat) (hk : 200 ≤ k) (i : Nat) (hi : i < 6) (s t : ByteArray) (hst : rd_L6 sidesPairs (i : Int) = [s, t]) {op op' : Int} {kids kids' : List S31} {v : Int × Int × Int × ByteArray × Int × Int}
    (hp : expr_Parse.f 200 s = some (op, 0, 0, 0, ⟨#[]⟩, 0, ⟨#[]⟩, kids, 0, 0)) (hp' : expr_Parse.f 200 t = some (op', 0, 0, 0, ⟨#[]⟩, 0, ⟨#[]⟩, kids', 0, 0))
    (he : calc_Eval.f 200 op 0 0 0 ⟨#[]⟩ 0 ⟨#[]⟩ kids (sidesList A B) = some v) (he' : calc_Eval.f 200 op' 0 0 0 ⟨#[]⟩ 0 ⟨#[]⟩ kids' (sidesList A B) = some v) :
    soffitlaw11_CalcSides.l0 (k + 2) (sidesList A B) sidesPairs (i : Int) = soffitlaw11_CalcSides.l0 k (sidesList A B) sidesPairs ((i + 1 : Nat) : Int) := by
  have P := up (fun k => expr_Parse.mono _ k) (show 200 ≤ k + 1 by omega) hp
  have P' := up (fun k => expr_Parse.mono _ k) (show 200 ≤ k + 1 by omega) hp'
  have E := up (fun k => calc_Eval.mono _ _ _ _ _ _ _ _ _ k) (show 200 ≤ k + 1 by omega) he
  have E' := up (fun k => calc_Eval.mono _ _ _ _ _ _ _ _ _ k) (show 200 ≤ k + 1 by omega) he'
  rw [soffitlaw11_CalcSides.l0, if_pos (by show (i : Int) < 6; omega), if_pos (by omega), hst, if_pos (by show (0 : Int) < ((2 : Nat) : Int); decide)]
  rw [show rdOf ByteArray.empty [s, t] 0 = s from rfl, show rdOf ByteArray.empty [s, t] 1 = t from rfl, P]
  simp only [Option.bind_some]
  rw [if_pos (by show (1 : Int) < ((2 : Nat) : Int); decide), P']
  simp only [Option.bind_some]
  rw [E]
  simp only [Option.bind_some]
  rw [E']
  simp only [Option.bind_some, if_true]
  have b : (!(v.1 == v.1) || ((!(v.2.1 == v.2.1) || (!(v.2.2.1 == v.2.2.1))) || (!(v.2.2.2.1.toList == v.2.2.2.1.toList) || (!(v.2.2.2.2.1 == v.2.2.2.2.1))))) = false := by simp
  rw [b, soffitlaw11_CalcSides.j1, if_neg (by simp), w64 (by omega) (by omega)]
  rfl
end
theorem calcSides_true (a0 a1 a2 : Int) (a3 : ByteArray) (a4 b0 b1 b2 : Int) (b3 : ByteArray) (b4 : Int) : soffitlaw11_CalcSides.f 5000 a0 a1 a2 a3 a4 b0 b1 b2 b3 b4 = some true := by
  show soffitlaw11_CalcSides.l0 5000 (sidesList (a0, a1, a2, a3, a4) (b0, b1, b2, b3, b4)) sidesPairs ((0 : Nat) : Int) = some true
  generalize ((a0, a1, a2, a3, a4) : Int × Int × Int × ByteArray × Int) = A
  generalize ((b0, b1, b2, b3, b4) : Int × Int × Int × ByteArray × Int) = B
  have pa : (97 : UInt8) = 97 ∨ (97 : UInt8) = 98 := Or.inl rfl
  have pb : (98 : UInt8) = 97 ∨ (98 : UInt8) = 98 := Or.inr rfl
  have two := fun op p q hp hq ho => ev_two A B 199 (by decide) op p q hp hq ho
  have two1 := fun op p q hp hq ho => ev_two A B 198 (by decide) op p q hp hq ho
  have two2 := fun op p q hp hq ho => ev_two A B 197 (by decide) op p q hp hq ho
  rw [show (5000 : Nat) = 4998 + 2 from rfl, sides_step A B 4998 (by decide) 0 (by decide) _ _ rfl (op := 10) (kids := [nam 97, nam 98]) (op' := 12) (kids' := [nam 98, nam 97]) (by kernel_rfl) (by kernel_rfl)
    (sides_eval A B (by decide) (by kernel_rfl) (ns := [⟨#[97]⟩, ⟨#[98]⟩]) (by kernel_rfl) (by decide) (by kernel_rfl) (two 10 97 98 pa pb (by decide)))
    (sides_eval A B (by decide) (by kernel_rfl) (ns := [⟨#[98]⟩, ⟨#[97]⟩]) (by kernel_rfl) (by decide) (by kernel_rfl) (two 12 98 97 pb pa (by decide)))]
  rw [show (4998 : Nat) = 4996 + 2 from rfl, sides_step A B 4996 (by decide) 1 (by decide) _ _ rfl (op := 11) (kids := [nam 97, nam 98]) (op' := 16) (kids' := [bare 10 [nam 98, nam 97]]) (by kernel_rfl) (by kernel_rfl)
    (sides_eval A B (by decide) (by kernel_rfl) (ns := [⟨#[97]⟩, ⟨#[98]⟩]) (by kernel_rfl) (by decide) (by kernel_rfl) (two 11 97 98 pa pb (by decide)))
    (sides_eval A B (by decide) (by kernel_rfl) (ns := [⟨#[98]⟩, ⟨#[97]⟩]) (by kernel_rfl) (by decide) (by kernel_rfl) (ev_not A B 199 10 _ _ (two1 10 98 97 pb pa (by decide))))]
  rw [show (4996 : Nat) = 4994 + 2 from rfl, sides_step A B 4994 (by decide) 2 (by decide) _ _ rfl (op := 13) (kids := [nam 97, nam 98]) (op' := 11) (kids' := [nam 98, nam 97]) (by kernel_rfl) (by kernel_rfl)
    (sides_eval A B (by decide) (by kernel_rfl) (ns := [⟨#[97]⟩, ⟨#[98]⟩]) (by kernel_rfl) (by decide) (by kernel_rfl) (two 13 97 98 pa pb (by decide)))
    (sides_eval A B (by decide) (by kernel_rfl) (ns := [⟨#[98]⟩, ⟨#[97]⟩]) (by kernel_rfl) (by decide) (by kernel_rfl) (two 11 98 97 pb pa (by decide)))]
  rw [show (4994 : Nat) = 4992 + 2 from rfl, sides_step A B 4992 (by decide) 3 (by decide) _ _ rfl (op := 9) (kids := [nam 97, nam 98]) (op' := 16) (kids' := [bare 8 [nam 97, nam 98]]) (by kernel_rfl) (by kernel_rfl)
    (sides_eval A B (by decide) (by kernel_rfl) (ns := [⟨#[97]⟩, ⟨#[98]⟩]) (by kernel_rfl) (by decide) (by kernel_rfl) (two 9 97 98 pa pb (by decide)))
    (sides_eval A B (by decide) (by kernel_rfl) (ns := [⟨#[97]⟩, ⟨#[98]⟩]) (by kernel_rfl) (by decide) (by kernel_rfl) (ev_not A B 199 8 _ _ (two1 8 97 98 pa pb (by decide))))]
  have ec : EQ A B 97 98 = EQ A B 98 97 := eqv_comm _ _ _ _ _ _ _ _ _ _
  rw [show (4992 : Nat) = 4990 + 2 from rfl, sides_step A B 4990 (by decide) 4 (by decide) _ _ rfl (op := 8) (kids := [nam 97, nam 98]) (op' := 8) (kids' := [nam 98, nam 97]) (by kernel_rfl) (by kernel_rfl)
    (sides_eval A B (by decide) (by kernel_rfl) (ns := [⟨#[97]⟩, ⟨#[98]⟩]) (by kernel_rfl) (by decide) (by kernel_rfl) (o := EQ A B 98 97) (by rw [← ec]; exact two 8 97 98 pa pb (by decide)))
    (sides_eval A B (by decide) (by kernel_rfl) (ns := [⟨#[98]⟩, ⟨#[97]⟩]) (by kernel_rfl) (by decide) (by kernel_rfl) (two 8 98 97 pb pa (by decide)))]
  have nn : ∀ o : Option Bool, (o.map not).map not = o := fun o => by cases o with
    | none => rfl
    | some b => cases b <;> rfl
  rw [show (4990 : Nat) = 4988 + 2 from rfl, sides_step A B 4988 (by decide) 5 (by decide) _ _ rfl (op := 10) (kids := [nam 97, nam 98]) (op' := 16) (kids' := [bare 16 [bare 10 [nam 97, nam 98]]]) (by kernel_rfl) (by kernel_rfl)
    (sides_eval A B (by decide) (by kernel_rfl) (ns := [⟨#[97]⟩, ⟨#[98]⟩]) (by kernel_rfl) (by decide) (by kernel_rfl) (o := LS A B 97 98) (two 10 97 98 pa pb (by decide)))
    (sides_eval A B (by decide) (by kernel_rfl) (ns := [⟨#[97]⟩, ⟨#[98]⟩]) (by kernel_rfl) (by decide) (by kernel_rfl) (o := LS A B 97 98) (by
      have := ev_not A B 199 16 _ _ (ev_not A B 198 10 _ _ (two2 10 97 98 pa pb (by decide)))
      rw [nn] at this
      exact this))]
  rw [show (4988 : Nat) = 4987 + 1 from rfl, soffitlaw11_CalcSides.l0, if_neg (by decide), awake_f (by decide)]
  rfl
end Go.Proofs.YtgkemhgihbfmmaaGreatDoor.PA
end
