/- Part 19 of the proof for CalcCompares: functions of the program as plain Lean functions, their calls, and what they come to. -/
import Derived.Test.YtgkemhgihbfmmaaGreatDoorProg
import Derived.Below
import Derived.Deep.Draws
import Derived.Deep.AppendLies
import Derived.Maps.AppendAt
import Derived.OwnWalk
import Derived.Laws.BytesArg
import Derived.Laws.MakeOwn
import Derived.Laws.OwnMore
import Derived.Deep.OwnRows
import Derived.Tactics
import Derived.Lib.ConvBytes
import Derived.Laws.Slices
import Derived.WalkKit
import Derived.KernelRfl
import Derived.RowKit3
import Derived.Deep.LoopGhost
import Derived.Deep.QuietTactic
import Derived.BigQuiet
import Derived.WideLaws
import Derived.Deep.DeepCutAuto
import Derived.Deep.CutBlock
import Derived.Deep.RegionHeld3
import Derived.Laws.Rows
import Derived.Lib.AppendStr
import Derived.ArgAppend
import Derived.Laws.IdiomCopy
import Derived.OrdersHeld
import Derived.Laws.BitsLemmas
import Derived.RowKit
import Derived.Lib.OthersKept
import Derived.Lib.TrimU
import Derived.Lib.RuneCountTail
import Derived.Lib.SmallJoins
import Derived.Test.YtgkemhgihbfmmaaGreatDoorCalcComparesK0
import Derived.Test.YtgkemhgihbfmmaaGreatDoorCalcComparesK3
import Derived.Test.YtgkemhgihbfmmaaGreatDoorCalcComparesK4
import Derived.Test.YtgkemhgihbfmmaaGreatDoorCalcComparesK5
import Derived.Test.YtgkemhgihbfmmaaGreatDoorCalcComparesK6
import Derived.Test.YtgkemhgihbfmmaaGreatDoorCalcComparesK7
import Derived.Test.YtgkemhgihbfmmaaGreatDoorCalcComparesK8
import Derived.Test.YtgkemhgihbfmmaaGreatDoorCalcComparesK9
import Derived.Test.YtgkemhgihbfmmaaGreatDoorCalcComparesK10
import Derived.Test.YtgkemhgihbfmmaaGreatDoorCalcComparesK11
import Derived.Test.YtgkemhgihbfmmaaGreatDoorCalcComparesK12
import Derived.Test.YtgkemhgihbfmmaaGreatDoorCalcComparesK13
import Derived.Test.YtgkemhgihbfmmaaGreatDoorCalcComparesK14
import Derived.Test.YtgkemhgihbfmmaaGreatDoorCalcComparesK17
set_option linter.unusedVariables false
set_option linter.unusedSimpArgs false
section
namespace Go.Proofs.YtgkemhgihbfmmaaGreatDoor.PA
open Go.RowKit Go.Proofs.YtgkemhgihbfmmaaGreatDoorW.PrintWords Go.Proofs.YtgkemhgihbfmmaaGreatDoorW.PrintLast Go.Proofs.YtgkemhgihbfmmaaGreatDoorW.PrintMore
attribute [local go_sem] max2_int min2_int max_two min_two max_three min_three max_four min_four
set_option linter.unusedVariables false
set_option linter.unusedSimpArgs false
def errW : Option Int → Value
 | none => .nilIface
 | some c => .iface 0 (.int .i64 c)
theorem errW_none : errW none = .nilIface := rfl
theorem errW_some (c : Int) : errW (some c) = .iface 0 (.int .i64 c) := rfl
theorem info3 : (Tryz.prog.info? 3).map (fun i => (i.zero, i.size, i.bytes)) = some (some (.int .i64 0), 1, 8) := by kernel_rfl
theorem info9 : (Tryz.prog.info? 9).map (fun i => (i.zero, i.size, i.bytes)) = some (some (.string ⟨#[]⟩), 1, 16) := by kernel_rfl
theorem info136 : (Tryz.prog.info? 136).map (fun i => (i.zero, i.size, i.bytes)) = some (some (.agg #[(.int .i64 0), (.int .i64 0), (.string ⟨#[]⟩), (.int .i64 0), (.int .i64 0), (.int .i64 0)]), 6, 56) := by kernel_rfl
structure S23 where
 f0 : Int
 f1 : Int
def z23 : S23 := ⟨(0 : Int), (0 : Int)⟩
def k23 : Kd S23 := Kd.iso (Kd.pair (Kd.int .i64) (Kd.int .i64)) (fun x : S23 => (x.f0, x.f1))
theorem k23_open {w : World} {x : S23} {cs : List Value} (h : k23.K w x cs) : cs = [.int .i64 x.f0, .int .i64 x.f1] := by
 obtain ⟨_, _, rfl, rfl, rfl⟩ := h
 exact rfl
theorem k23_mk (w : World) (x : S23)  : k23.K w x [.int .i64 x.f0, .int .i64 x.f1] := ⟨[.int .i64 x.f0], [.int .i64 x.f1], rfl, rfl, rfl⟩
theorem k23_mkM (w : World) (base : Nat) (ok : Nat → Prop) (x : S23)  : k23.M w base ok x [.int .i64 x.f0, .int .i64 x.f1] := ⟨[.int .i64 x.f0], [.int .i64 x.f1], rfl, rfl, rfl⟩
def rd_T23 (xs : List S23) (i : Int) : S23 := xs.getD i.toNat z23
theorem at_T23 {w : World} {A : Option Addr} {n : Nat} {xs : List S23} (h : Kd.C k23 w A n xs) (i : Int) (h0 : 0 ≤ i) (h1 : i < n) : ∃ ad , A = some ad ∧ w.cell? (ad.add (i.toNat * 2)) = some (.int .i64 (rd_T23 xs i).f0) ∧ w.cell? ⟨(ad.add (i.toNat * 2)).block, (ad.add (i.toNat * 2)).off + 1, none⟩ = some (.int .i64 (rd_T23 xs i).f1) := by
 obtain ⟨ad, c, e, _, hK, hc0⟩ := Kd.C_get h z23 i h0 h1
 have hc : ∀ j u, c[j]? = some u → w.cell? (ad.add (i.toNat * 2 + j)) = some u := hc0
 obtain rfl := k23_open hK
 exact ⟨ad, e, hc 0 _ rfl, by rw [← add_field _ _ 1 (by omega)]; exact hc 1 _ rfl⟩
structure S136 where
 f0 : Int
 f1 : Int
 f2 : ByteArray
 f3 : S23
 f4 : Int
def z136 : S136 := ⟨(0 : Int), (0 : Int), (⟨#[]⟩ : ByteArray), z23, (0 : Int)⟩
def k136 : Kd S136 := Kd.iso (Kd.pair (Kd.int .i64) (Kd.pair (Kd.int .i64) (Kd.pair Kd.string (Kd.pair k23 (Kd.int .i64))))) (fun x : S136 => (x.f0, x.f1, x.f2, x.f3, x.f4))
theorem k136_open {w : World} {x : S136} {cs : List Value} (h : k136.K w x cs) : cs = [.int .i64 x.f0, .int .i64 x.f1, .string x.f2, .int .i64 x.f3.f0, .int .i64 x.f3.f1, .int .i64 x.f4] := by
 obtain ⟨_, _, rfl, rfl, ⟨_, _, rfl, rfl, ⟨_, _, rfl, rfl, ⟨_, _, rfl, s3, rfl⟩⟩⟩⟩ := h
 obtain rfl := k23_open s3
 exact rfl
theorem k136_mkM (w : World) (base : Nat) (ok : Nat → Prop) (x : S136)  : k136.M w base ok x [.int .i64 x.f0, .int .i64 x.f1, .string x.f2, .int .i64 x.f3.f0, .int .i64 x.f3.f1, .int .i64 x.f4] := ⟨[.int .i64 x.f0], [.int .i64 x.f1, .string x.f2, .int .i64 x.f3.f0, .int .i64 x.f3.f1, .int .i64 x.f4], rfl, rfl, ⟨[.int .i64 x.f1], [.string x.f2, .int .i64 x.f3.f0, .int .i64 x.f3.f1, .int .i64 x.f4], rfl, rfl, ⟨[.string x.f2], [.int .i64 x.f3.f0, .int .i64 x.f3.f1, .int .i64 x.f4], rfl, rfl, ⟨[.int .i64 x.f3.f0, .int .i64 x.f3.f1], [.int .i64 x.f4], rfl, (k23_mkM w base ok x.f3 ), rfl⟩⟩⟩⟩
def rd_T136 (xs : List S136) (i : Int) : S136 := xs.getD i.toNat z136
theorem at_T136 {w : World} {A : Option Addr} {n : Nat} {xs : List S136} (h : Kd.C k136 w A n xs) (i : Int) (h0 : 0 ≤ i) (h1 : i < n) : ∃ ad , A = some ad ∧ w.cell? (ad.add (i.toNat * 6)) = some (.int .i64 (rd_T136 xs i).f0) ∧ w.cell? ⟨(ad.add (i.toNat * 6)).block, (ad.add (i.toNat * 6)).off + 1, none⟩ = some (.int .i64 (rd_T136 xs i).f1) ∧ w.cell? ⟨(ad.add (i.toNat * 6)).block, (ad.add (i.toNat * 6)).off + 2, none⟩ = some (.string (rd_T136 xs i).f2) ∧ w.cell? ⟨(ad.add (i.toNat * 6)).block, (ad.add (i.toNat * 6)).off + 3, none⟩ = some (.int .i64 (rd_T136 xs i).f3.f0) ∧ w.cell? ⟨(ad.add (i.toNat * 6)).block, (ad.add (i.toNat * 6)).off + 4, none⟩ = some (.int .i64 (rd_T136 xs i).f3.f1) ∧ w.cell? ⟨(ad.add (i.toNat * 6)).block, (ad.add (i.toNat * 6)).off + 5, none⟩ = some (.int .i64 (rd_T136 xs i).f4) := by
 obtain ⟨ad, c, e, _, hK, hc0⟩ := Kd.C_get h z136 i h0 h1
 have hc : ∀ j u, c[j]? = some u → w.cell? (ad.add (i.toNat * 6 + j)) = some u := hc0
 obtain rfl := k136_open hK
 exact ⟨ad, e, hc 0 _ rfl, by rw [← add_field _ _ 1 (by omega)]; exact hc 1 _ rfl, by rw [← add_field _ _ 2 (by omega)]; exact hc 2 _ rfl, by rw [← add_field _ _ 3 (by omega)]; exact hc 3 _ rfl, by rw [← add_field _ _ 4 (by omega)]; exact hc 4 _ rfl, by rw [← add_field _ _ 5 (by omega)]; exact hc 5 _ rfl⟩
structure S25 where
 f0 : Int
 f1 : S23
 f2 : ByteArray
 f3 : Int
def z25 : S25 := ⟨(0 : Int), z23, (⟨#[]⟩ : ByteArray), (0 : Int)⟩
def k25 : Kd S25 := Kd.iso (Kd.pair (Kd.int .i64) (Kd.pair k23 (Kd.pair Kd.string (Kd.int .i64)))) (fun x : S25 => (x.f0, x.f1, x.f2, x.f3))
theorem k25_open {w : World} {x : S25} {cs : List Value} (h : k25.K w x cs) : cs = [.int .i64 x.f0, .int .i64 x.f1.f0, .int .i64 x.f1.f1, .string x.f2, .int .i64 x.f3] := by
 obtain ⟨_, _, rfl, rfl, ⟨_, _, rfl, s1, ⟨_, _, rfl, rfl, rfl⟩⟩⟩ := h
 obtain rfl := k23_open s1
 exact rfl
theorem k25_mk (w : World) (x : S25)  : k25.K w x [.int .i64 x.f0, .int .i64 x.f1.f0, .int .i64 x.f1.f1, .string x.f2, .int .i64 x.f3] := ⟨[.int .i64 x.f0], [.int .i64 x.f1.f0, .int .i64 x.f1.f1, .string x.f2, .int .i64 x.f3], rfl, rfl, ⟨[.int .i64 x.f1.f0, .int .i64 x.f1.f1], [.string x.f2, .int .i64 x.f3], rfl, (k23_mk w x.f1 ), ⟨[.string x.f2], [.int .i64 x.f3], rfl, rfl, rfl⟩⟩⟩
theorem k25_mkM (w : World) (base : Nat) (ok : Nat → Prop) (x : S25)  : k25.M w base ok x [.int .i64 x.f0, .int .i64 x.f1.f0, .int .i64 x.f1.f1, .string x.f2, .int .i64 x.f3] := ⟨[.int .i64 x.f0], [.int .i64 x.f1.f0, .int .i64 x.f1.f1, .string x.f2, .int .i64 x.f3], rfl, rfl, ⟨[.int .i64 x.f1.f0, .int .i64 x.f1.f1], [.string x.f2, .int .i64 x.f3], rfl, (k23_mkM w base ok x.f1 ), ⟨[.string x.f2], [.int .i64 x.f3], rfl, rfl, rfl⟩⟩⟩
structure S31 where
 f0 : Int
 f1 : S25
 f2 : ByteArray
 f3 : (List S31)
def z31 : S31 := ⟨(0 : Int), z25, (⟨#[]⟩ : ByteArray), ([] : List S31)⟩
def F31 (d : Kd S31) : Kd S31 := Kd.iso (Kd.pair (Kd.int .i64) (Kd.pair k25 (Kd.pair Kd.string (Kd.slice 31 d)))) (fun x : S31 => (x.f0, x.f1, x.f2, x.f3))
theorem mono31 : Kd.Mono F31 := Kd.mono_iso _ (Kd.mono_pair (Kd.mono_const _) (Kd.mono_pair (Kd.mono_const _) (Kd.mono_pair (Kd.mono_const _) (Kd.mono_slice 31 Kd.mono_id))))
theorem sub31 : Kd.Sub F31 [31] := Kd.sub_iso _ (Kd.sub_pair (Kd.sub_const _ (by decide)) (Kd.sub_pair (Kd.sub_const _ (by decide)) (Kd.sub_pair (Kd.sub_const _ (by decide)) (Kd.sub_slice 31 (by decide) Kd.sub_id))))
theorem sz31 : ∀ n, (Kd.upto F31 8 [31] n).sz = 8 := Kd.upto_sz (fun _ => rfl)
def k31 : Kd S31 := Kd.fix F31 8 [31] sz31 (Kd.upto_E sub31)
theorem k31_open {w : World} {x : S31} {cs : List Value} (h : k31.K w x cs) : ∃ A7 c7, cs = [.int .i64 x.f0, .int .i64 x.f1.f0, .int .i64 x.f1.f1.f0, .int .i64 x.f1.f1.f1, .string x.f1.f2, .int .i64 x.f1.f3, .string x.f2, .slice A7 x.f3.length c7] ∧ x.f3.length ≤ c7 ∧ k31.C w A7 x.f3.length x.f3 := by
 obtain ⟨n, h⟩ := h
 cases n with
 | zero => exact h.elim
 | succ n =>
  obtain ⟨_, _, rfl, rfl, ⟨_, _, rfl, s1, ⟨_, _, rfl, rfl, ⟨A7, c7, rfl, l7, g7⟩⟩⟩⟩ := h
  obtain rfl := k25_open s1
  exact ⟨A7, c7, rfl, l7, Kd.fix_C g7⟩
theorem k31_mk (w : World) (x : S31) {A7 : Option Addr} {c7 : Nat} (l7 : x.f3.length ≤ c7) (g7 : k31.C w A7 x.f3.length x.f3) : k31.K w x [.int .i64 x.f0, .int .i64 x.f1.f0, .int .i64 x.f1.f1.f0, .int .i64 x.f1.f1.f1, .string x.f1.f2, .int .i64 x.f1.f3, .string x.f2, .slice A7 x.f3.length c7] := by
 obtain ⟨n7, q7⟩ := Kd.fix_C_back mono31 g7
 have r7 := Kd.upto_C_le mono31 sz31 (show n7 ≤ n7 by omega) q7
 exact ⟨n7 + 1, ⟨[.int .i64 x.f0], [.int .i64 x.f1.f0, .int .i64 x.f1.f1.f0, .int .i64 x.f1.f1.f1, .string x.f1.f2, .int .i64 x.f1.f3, .string x.f2, .slice A7 x.f3.length c7], rfl, rfl, ⟨[.int .i64 x.f1.f0, .int .i64 x.f1.f1.f0, .int .i64 x.f1.f1.f1, .string x.f1.f2, .int .i64 x.f1.f3], [.string x.f2, .slice A7 x.f3.length c7], rfl, (k25_mk w x.f1 ), ⟨[.string x.f2], [.slice A7 x.f3.length c7], rfl, rfl, ⟨A7, c7, rfl, l7, r7⟩⟩⟩⟩⟩
theorem k31_mkF (W : World) (ok : Nat → Prop) (x : S31) {A7 : Option Addr} {c7 : Nat} (l7 : x.f3.length ≤ c7) (g7 : Kd.F k31 W ok A7 x.f3.length x.f3) : Kd.FK k31 W ok x [.int .i64 x.f0, .int .i64 x.f1.f0, .int .i64 x.f1.f1.f0, .int .i64 x.f1.f1.f1, .string x.f1.f2, .int .i64 x.f1.f3, .string x.f2, .slice A7 x.f3.length c7] := fun W2 hW => k31_mk W2 x l7 (g7 W2 hW)
def rd_T31 (xs : List S31) (i : Int) : S31 := xs.getD i.toNat z31
theorem at_T31 {w : World} {A : Option Addr} {n : Nat} {xs : List S31} (h : Kd.C k31 w A n xs) (i : Int) (h0 : 0 ≤ i) (h1 : i < n) : ∃ ad A7 c7, A = some ad ∧ w.cell? (ad.add (i.toNat * 8)) = some (.int .i64 (rd_T31 xs i).f0) ∧ w.cell? ⟨(ad.add (i.toNat * 8)).block, (ad.add (i.toNat * 8)).off + 1, none⟩ = some (.int .i64 (rd_T31 xs i).f1.f0) ∧ w.cell? ⟨(ad.add (i.toNat * 8)).block, (ad.add (i.toNat * 8)).off + 2, none⟩ = some (.int .i64 (rd_T31 xs i).f1.f1.f0) ∧ w.cell? ⟨(ad.add (i.toNat * 8)).block, (ad.add (i.toNat * 8)).off + 3, none⟩ = some (.int .i64 (rd_T31 xs i).f1.f1.f1) ∧ w.cell? ⟨(ad.add (i.toNat * 8)).block, (ad.add (i.toNat * 8)).off + 4, none⟩ = some (.string (rd_T31 xs i).f1.f2) ∧ w.cell? ⟨(ad.add (i.toNat * 8)).block, (ad.add (i.toNat * 8)).off + 5, none⟩ = some (.int .i64 (rd_T31 xs i).f1.f3) ∧ w.cell? ⟨(ad.add (i.toNat * 8)).block, (ad.add (i.toNat * 8)).off + 6, none⟩ = some (.string (rd_T31 xs i).f2) ∧ w.cell? ⟨(ad.add (i.toNat * 8)).block, (ad.add (i.toNat * 8)).off + 7, none⟩ = some (.slice A7 (rd_T31 xs i).f3.length c7) ∧ (rd_T31 xs i).f3.length ≤ c7 ∧ k31.C w A7 (rd_T31 xs i).f3.length (rd_T31 xs i).f3 := by
 obtain ⟨ad, c, e, _, hK, hc0⟩ := Kd.C_get h z31 i h0 h1
 have hc : ∀ j u, c[j]? = some u → w.cell? (ad.add (i.toNat * 8 + j)) = some u := hc0
 obtain ⟨A7, c7, rfl, l7, g7⟩ := k31_open hK
 exact ⟨ad, A7, c7, e, hc 0 _ rfl, by rw [← add_field _ _ 1 (by omega)]; exact hc 1 _ rfl, by rw [← add_field _ _ 2 (by omega)]; exact hc 2 _ rfl, by rw [← add_field _ _ 3 (by omega)]; exact hc 3 _ rfl, by rw [← add_field _ _ 4 (by omega)]; exact hc 4 _ rfl, by rw [← add_field _ _ 5 (by omega)]; exact hc 5 _ rfl, by rw [← add_field _ _ 6 (by omega)]; exact hc 6 _ rfl, by rw [← add_field _ _ 7 (by omega)]; exact hc 7 _ rfl, l7, g7⟩
structure S143 where
 f0 : (List ByteArray)
 f1 : (List Int)
 f2 : Bool
def z143 : S143 := ⟨([] : List ByteArray), ([] : List Int), false⟩
def k143 : Kd S143 := Kd.iso (Kd.pair (Kd.slice 9 Kd.string) (Kd.pair (Kd.slice 3 (Kd.int .i64)) Kd.bool)) (fun x : S143 => (x.f0, x.f1, x.f2))
theorem k143_open {w : World} {x : S143} {cs : List Value} (h : k143.K w x cs) : ∃ A0 c0 A1 c1, cs = [.slice A0 x.f0.length c0, .slice A1 x.f1.length c1, .bool x.f2] ∧ x.f0.length ≤ c0 ∧ Kd.string.C w A0 x.f0.length x.f0 ∧ x.f1.length ≤ c1 ∧ (Kd.int .i64).C w A1 x.f1.length x.f1 := by
 obtain ⟨_, _, rfl, ⟨A0, c0, rfl, l0, g0⟩, ⟨_, _, rfl, ⟨A1, c1, rfl, l1, g1⟩, rfl⟩⟩ := h
 exact ⟨A0, c0, A1, c1, rfl, l0, g0, l1, g1⟩
theorem k143_mk (w : World) (x : S143) {A0 : Option Addr} {c0 : Nat} (l0 : x.f0.length ≤ c0) (g0 : Kd.string.C w A0 x.f0.length x.f0) {A1 : Option Addr} {c1 : Nat} (l1 : x.f1.length ≤ c1) (g1 : (Kd.int .i64).C w A1 x.f1.length x.f1) : k143.K w x [.slice A0 x.f0.length c0, .slice A1 x.f1.length c1, .bool x.f2] := ⟨[.slice A0 x.f0.length c0], [.slice A1 x.f1.length c1, .bool x.f2], rfl, ⟨A0, c0, rfl, l0, g0⟩, ⟨[.slice A1 x.f1.length c1], [.bool x.f2], rfl, ⟨A1, c1, rfl, l1, g1⟩, rfl⟩⟩
theorem k143_openF {W : World} {ok : Nat → Prop} {x : S143} {cs : List Value} (h : Kd.FK k143 W ok x cs) : ∃ A0 c0 A1 c1, cs = [.slice A0 x.f0.length c0, .slice A1 x.f1.length c1, .bool x.f2] ∧ x.f0.length ≤ c0 ∧ Kd.F Kd.string W ok A0 x.f0.length x.f0 ∧ x.f1.length ≤ c1 ∧ Kd.F (Kd.int .i64) W ok A1 x.f1.length x.f1 := by
 obtain ⟨A0, c0, A1, c1, rfl, l0, _, l1, _⟩ := k143_open (Kd.FK_now h)
 exact ⟨A0, c0, A1, c1, rfl, l0, (fun W' hW => by obtain ⟨A0_, c0_, A1_, c1_, he, l0_, g0_, l1_, g1_⟩ := k143_open (h W' hW); injection (Option.some.inj (show some (Value.slice A0 x.f0.length c0) = some (Value.slice A0_ x.f0.length c0_) from congrArg (fun l => l[0]?) he)) with ha_ _ _; rw [ha_]; exact g0_), l1, (fun W' hW => by obtain ⟨A0_, c0_, A1_, c1_, he, l0_, g0_, l1_, g1_⟩ := k143_open (h W' hW); injection (Option.some.inj (show some (Value.slice A1 x.f1.length c1) = some (Value.slice A1_ x.f1.length c1_) from congrArg (fun l => l[1]?) he)) with ha_ _ _; rw [ha_]; exact g1_)⟩
theorem k143_mkF (W : World) (ok : Nat → Prop) (x : S143) {A0 : Option Addr} {c0 : Nat} (l0 : x.f0.length ≤ c0) (g0 : Kd.F Kd.string W ok A0 x.f0.length x.f0) {A1 : Option Addr} {c1 : Nat} (l1 : x.f1.length ≤ c1) (g1 : Kd.F (Kd.int .i64) W ok A1 x.f1.length x.f1) : Kd.FK k143 W ok x [.slice A0 x.f0.length c0, .slice A1 x.f1.length c1, .bool x.f2] := fun W2 hW => k143_mk W2 x l0 (g0 W2 hW) l1 (g1 W2 hW)
def rd_T143 (xs : List S143) (i : Int) : S143 := xs.getD i.toNat z143
theorem at_T143 {w : World} {A : Option Addr} {n : Nat} {xs : List S143} (h : Kd.C k143 w A n xs) (i : Int) (h0 : 0 ≤ i) (h1 : i < n) : ∃ ad A0 c0 A1 c1, A = some ad ∧ w.cell? (ad.add (i.toNat * 3)) = some (.slice A0 (rd_T143 xs i).f0.length c0) ∧ w.cell? ⟨(ad.add (i.toNat * 3)).block, (ad.add (i.toNat * 3)).off + 1, none⟩ = some (.slice A1 (rd_T143 xs i).f1.length c1) ∧ w.cell? ⟨(ad.add (i.toNat * 3)).block, (ad.add (i.toNat * 3)).off + 2, none⟩ = some (.bool (rd_T143 xs i).f2) ∧ (rd_T143 xs i).f0.length ≤ c0 ∧ Kd.string.C w A0 (rd_T143 xs i).f0.length (rd_T143 xs i).f0 ∧ (rd_T143 xs i).f1.length ≤ c1 ∧ (Kd.int .i64).C w A1 (rd_T143 xs i).f1.length (rd_T143 xs i).f1 := by
 obtain ⟨ad, c, e, _, hK, hc0⟩ := Kd.C_get h z143 i h0 h1
 have hc : ∀ j u, c[j]? = some u → w.cell? (ad.add (i.toNat * 3 + j)) = some u := hc0
 obtain ⟨A0, c0, A1, c1, rfl, l0, g0, l1, g1⟩ := k143_open hK
 exact ⟨ad, A0, c0, A1, c1, e, hc 0 _ rfl, by rw [← add_field _ _ 1 (by omega)]; exact hc 1 _ rfl, by rw [← add_field _ _ 2 (by omega)]; exact hc 2 _ rfl, l0, g0, l1, g1⟩
structure S27 where
 f0 : ByteArray
 f1 : S25
def z27 : S27 := ⟨(⟨#[]⟩ : ByteArray), z25⟩
def k27 : Kd S27 := Kd.iso (Kd.pair Kd.string k25) (fun x : S27 => (x.f0, x.f1))
theorem k27_open {w : World} {x : S27} {cs : List Value} (h : k27.K w x cs) : cs = [.string x.f0, .int .i64 x.f1.f0, .int .i64 x.f1.f1.f0, .int .i64 x.f1.f1.f1, .string x.f1.f2, .int .i64 x.f1.f3] := by
 obtain ⟨_, _, rfl, rfl, s1⟩ := h
 obtain rfl := k25_open s1
 exact rfl
theorem k27_mkM (w : World) (base : Nat) (ok : Nat → Prop) (x : S27)  : k27.M w base ok x [.string x.f0, .int .i64 x.f1.f0, .int .i64 x.f1.f1.f0, .int .i64 x.f1.f1.f1, .string x.f1.f2, .int .i64 x.f1.f3] := ⟨[.string x.f0], [.int .i64 x.f1.f0, .int .i64 x.f1.f1.f0, .int .i64 x.f1.f1.f1, .string x.f1.f2, .int .i64 x.f1.f3], rfl, rfl, (k25_mkM w base ok x.f1 )⟩
def rd_T27 (xs : List S27) (i : Int) : S27 := xs.getD i.toNat z27
theorem at_T27 {w : World} {A : Option Addr} {n : Nat} {xs : List S27} (h : Kd.C k27 w A n xs) (i : Int) (h0 : 0 ≤ i) (h1 : i < n) : ∃ ad , A = some ad ∧ w.cell? (ad.add (i.toNat * 6)) = some (.string (rd_T27 xs i).f0) ∧ w.cell? ⟨(ad.add (i.toNat * 6)).block, (ad.add (i.toNat * 6)).off + 1, none⟩ = some (.int .i64 (rd_T27 xs i).f1.f0) ∧ w.cell? ⟨(ad.add (i.toNat * 6)).block, (ad.add (i.toNat * 6)).off + 2, none⟩ = some (.int .i64 (rd_T27 xs i).f1.f1.f0) ∧ w.cell? ⟨(ad.add (i.toNat * 6)).block, (ad.add (i.toNat * 6)).off + 3, none⟩ = some (.int .i64 (rd_T27 xs i).f1.f1.f1) ∧ w.cell? ⟨(ad.add (i.toNat * 6)).block, (ad.add (i.toNat * 6)).off + 4, none⟩ = some (.string (rd_T27 xs i).f1.f2) ∧ w.cell? ⟨(ad.add (i.toNat * 6)).block, (ad.add (i.toNat * 6)).off + 5, none⟩ = some (.int .i64 (rd_T27 xs i).f1.f3) := by
 obtain ⟨ad, c, e, _, hK, hc0⟩ := Kd.C_get h z27 i h0 h1
 have hc : ∀ j u, c[j]? = some u → w.cell? (ad.add (i.toNat * 6 + j)) = some u := hc0
 obtain rfl := k27_open hK
 exact ⟨ad, e, hc 0 _ rfl, by rw [← add_field _ _ 1 (by omega)]; exact hc 1 _ rfl, by rw [← add_field _ _ 2 (by omega)]; exact hc 2 _ rfl, by rw [← add_field _ _ 3 (by omega)]; exact hc 3 _ rfl, by rw [← add_field _ _ 4 (by omega)]; exact hc 4 _ rfl, by rw [← add_field _ _ 5 (by omega)]; exact hc 5 _ rfl⟩
end Go.Proofs.YtgkemhgihbfmmaaGreatDoor.PA
end
section
namespace Go.Proofs.YtgkemhgihbfmmaaGreatDoor.PA
open Go.RowKit Go.Proofs.YtgkemhgihbfmmaaGreatDoorW.PrintWords Go.Proofs.YtgkemhgihbfmmaaGreatDoorW.PrintLast Go.Proofs.YtgkemhgihbfmmaaGreatDoorW.PrintMore
attribute [local go_sem] max2_int min2_int max_two min_two max_three min_three max_four min_four isSome_set str_gtr
set_option linter.unusedVariables false
set_option linter.unusedSimpArgs false
theorem eqA23 (d : Nat) (w : World) (x0 y0 : Int) (x1 y1 : Int) :
  (Op.equalIn (d + 2) 23 (.agg #[.int .i64 x0, .int .i64 x1]) (.agg #[.int .i64 y0, .int .i64 y1])).run Tryz.prog w = .ok (x0 == y0 && (x1 == y1)) w := by
 refine eqA_of Tryz.underlying23 (by kernel_rfl) ?_
 refine eqf_cons (by rfl) (by go_simp; rfl) (by go_simp; rfl) (by go_simp) ?_
 exact eqf_last (by rfl) (by go_simp; rfl) (by go_simp; rfl) (by go_simp)
end Go.Proofs.YtgkemhgihbfmmaaGreatDoor.PA
end
section
namespace Go.Proofs.YtgkemhgihbfmmaaGreatDoor.PA
open Go.RowKit Go.Proofs.YtgkemhgihbfmmaaGreatDoorW.PrintWords Go.Proofs.YtgkemhgihbfmmaaGreatDoorW.PrintLast Go.Proofs.YtgkemhgihbfmmaaGreatDoorW.PrintMore
attribute [local go_sem] max2_int min2_int max_two min_two max_three min_three max_four min_four isSome_set str_gtr
set_option linter.unusedVariables false
set_option linter.unusedSimpArgs false
theorem eqA25 (d : Nat) (w : World) (x0 y0 : Int) (x1 y1 : Int) (x2 y2 : Int) (x3 y3 : ByteArray) (x4 y4 : Int) :
  (Op.equalIn (d + 3) 25 (.agg #[.int .i64 x0, .int .i64 x1, .int .i64 x2, .string x3, .int .i64 x4]) (.agg #[.int .i64 y0, .int .i64 y1, .int .i64 y2, .string y3, .int .i64 y4])).run Tryz.prog w = .ok (x0 == y0 && ((x1 == y1 && (x2 == y2)) && (x3.toList == y3.toList && (x4 == y4)))) w := by
 refine eqA_of Tryz.underlying25 (by kernel_rfl) ?_
 refine eqf_cons (by rfl) (by go_simp; rfl) (by go_simp; rfl) (by go_simp) ?_
 refine eqf_cons (by rfl) (by go_simp) (by go_simp) (eqA23 (d + 0) w _ _ _ _) ?_
 refine eqf_cons (by rfl) (by go_simp; rfl) (by go_simp; rfl) (by go_simp) ?_
 exact eqf_last (by rfl) (by go_simp; rfl) (by go_simp; rfl) (by go_simp)
end Go.Proofs.YtgkemhgihbfmmaaGreatDoor.PA
end
section
namespace Go.Proofs.YtgkemhgihbfmmaaGreatDoor.PA
open Go.RowKit Go.Proofs.YtgkemhgihbfmmaaGreatDoorW.PrintWords Go.Proofs.YtgkemhgihbfmmaaGreatDoorW.PrintLast Go.Proofs.YtgkemhgihbfmmaaGreatDoorW.PrintMore
attribute [local go_sem] max2_int min2_int max_two min_two max_three min_three max_four min_four isSome_set str_gtr
set_option linter.unusedVariables false
set_option linter.unusedSimpArgs false
def chars_sign.f (a0 : Int) : Option (Bool) := if a0 = 9 then (some true) else (if a0 = 10 then (some true) else (if a0 = 13 then (some true) else (if a0 ≥ 32 then (if a0 ≤ 55295 then (some true) else (if a0 ≥ 57344 then (if a0 ≤ 65533 then (some true) else (if a0 ≥ 65536 then (some (decide (a0 ≤ 1114111))) else (some false))) else (if a0 ≥ 65536 then (some (decide (a0 ≤ 1114111))) else (some false)))) else (if a0 ≥ 57344 then (if a0 ≤ 65533 then (some true) else (if a0 ≥ 65536 then (some (decide (a0 ≤ 1114111))) else (some false))) else (if a0 ≥ 65536 then (some (decide (a0 ≤ 1114111))) else (some false))))))
set_option maxHeartbeats 8000000 in
set_option maxRecDepth 100000 in
theorem chars_sign.calls (a0 : Int) (r : Bool) (w : World) (h : chars_sign.f a0 = some r) :
  Calls Tryz.prog 156 #[.int .i32 a0] w fun e w' => e = .returned (.bool r) ∧ Drawn0 w w' := by
 have H : (if a0 = 9 then (some true) else (if a0 = 10 then (some true) else (if a0 = 13 then (some true) else (if a0 ≥ 32 then (if a0 ≤ 55295 then (some true) else (if a0 ≥ 57344 then (if a0 ≤ 65533 then (some true) else (if a0 ≥ 65536 then (some (decide (a0 ≤ 1114111))) else (some false))) else (if a0 ≥ 65536 then (some (decide (a0 ≤ 1114111))) else (some false)))) else (if a0 ≥ 57344 then (if a0 ≤ 65533 then (some true) else (if a0 ≥ 65536 then (some (decide (a0 ≤ 1114111))) else (some false))) else (if a0 ≥ 65536 then (some (decide (a0 ≤ 1114111))) else (some false))))))) = some r := h
 clear h
 by_cases c2 : a0 = 9
 ·replace H := ipe c2 H
  obtain ⟨H, c2b0, c2b1⟩ := H
  clear c2
  obtain rfl := Option.some.inj H
  go_enter Tryz.func156, Tryz.ntmps156
  go_wp2
  go_ret
  exact ⟨sz, dz⟩
 replace H := ine c2 H
 obtain ⟨H, c2b0, c2b1⟩ := H
 by_cases c3 : a0 = 10
 ·replace H := ipe c3 H
  obtain ⟨H, c3b0, c3b1⟩ := H
  clear c3
  obtain rfl := Option.some.inj H
  go_enter Tryz.func156, Tryz.ntmps156
  go_wp2
  go_ret
  exact ⟨sz, dz⟩
 replace H := ine c3 H
 obtain ⟨H, c3b0, c3b1⟩ := H
 by_cases c4 : a0 = 13
 ·replace H := ipe c4 H
  obtain ⟨H, c4b0, c4b1⟩ := H
  clear c4
  obtain rfl := Option.some.inj H
  go_enter Tryz.func156, Tryz.ntmps156
  go_wp2
  go_ret
  exact ⟨sz, dz⟩
 replace H := ine c4 H
 obtain ⟨H, c4b0, c4b1⟩ := H
 by_cases c5 : a0 ≥ 32
 ·rw [if_pos c5] at H
  have c5b0 : decide (32 ≤ a0) = true := decide_eq_true c5
  clear c5
  by_cases c6 : a0 ≤ 55295
  ·rw [if_pos c6] at H
   have c6b0 : decide (a0 ≤ 55295) = true := decide_eq_true c6
   clear c6
   obtain rfl := Option.some.inj H
   go_enter Tryz.func156, Tryz.ntmps156
   go_wp2
   go_ret
   exact ⟨sz, dz⟩
  rw [if_neg c6] at H
  have c6b0 : decide (a0 ≤ 55295) = false := decide_eq_false c6
  clear c6
  by_cases c7 : a0 ≥ 57344
  ·rw [if_pos c7] at H
   have c7b0 : decide (57344 ≤ a0) = true := decide_eq_true c7
   clear c7
   by_cases c8 : a0 ≤ 65533
   ·rw [if_pos c8] at H
    have c8b0 : decide (a0 ≤ 65533) = true := decide_eq_true c8
    clear c8
    obtain rfl := Option.some.inj H
    go_enter Tryz.func156, Tryz.ntmps156
    go_wp2
    go_ret
    exact ⟨sz, dz⟩
   rw [if_neg c8] at H
   have c8b0 : decide (a0 ≤ 65533) = false := decide_eq_false c8
   clear c8
   by_cases c9 : a0 ≥ 65536
   ·rw [if_pos c9] at H
    have c9b0 : decide (65536 ≤ a0) = true := decide_eq_true c9
    clear c9
    obtain rfl := Option.some.inj H
    go_enter Tryz.func156, Tryz.ntmps156
    go_wp2
    go_ret
    exact ⟨sz, dz⟩
   rw [if_neg c9] at H
   have c9b0 : decide (65536 ≤ a0) = false := decide_eq_false c9
   clear c9
   obtain rfl := Option.some.inj H
   go_enter Tryz.func156, Tryz.ntmps156
   go_wp2
   go_ret
   exact ⟨sz, dz⟩
  rw [if_neg c7] at H
  have c7b0 : decide (57344 ≤ a0) = false := decide_eq_false c7
  clear c7
  by_cases c10 : a0 ≥ 65536
  ·rw [if_pos c10] at H
   have c10b0 : decide (65536 ≤ a0) = true := decide_eq_true c10
   clear c10
   obtain rfl := Option.some.inj H
   go_enter Tryz.func156, Tryz.ntmps156
   go_wp2
   go_ret
   exact ⟨sz, dz⟩
  rw [if_neg c10] at H
  have c10b0 : decide (65536 ≤ a0) = false := decide_eq_false c10
  clear c10
  obtain rfl := Option.some.inj H
  go_enter Tryz.func156, Tryz.ntmps156
  go_wp2
  go_ret
  exact ⟨sz, dz⟩
 rw [if_neg c5] at H
 have c5b0 : decide (32 ≤ a0) = false := decide_eq_false c5
 clear c5
 by_cases c11 : a0 ≥ 57344
 ·rw [if_pos c11] at H
  have c11b0 : decide (57344 ≤ a0) = true := decide_eq_true c11
  clear c11
  by_cases c12 : a0 ≤ 65533
  ·rw [if_pos c12] at H
   have c12b0 : decide (a0 ≤ 65533) = true := decide_eq_true c12
   clear c12
   obtain rfl := Option.some.inj H
   go_enter Tryz.func156, Tryz.ntmps156
   go_wp2
   go_ret
   exact ⟨sz, dz⟩
  rw [if_neg c12] at H
  have c12b0 : decide (a0 ≤ 65533) = false := decide_eq_false c12
  clear c12
  by_cases c13 : a0 ≥ 65536
  ·rw [if_pos c13] at H
   have c13b0 : decide (65536 ≤ a0) = true := decide_eq_true c13
   clear c13
   obtain rfl := Option.some.inj H
   go_enter Tryz.func156, Tryz.ntmps156
   go_wp2
   go_ret
   exact ⟨sz, dz⟩
  rw [if_neg c13] at H
  have c13b0 : decide (65536 ≤ a0) = false := decide_eq_false c13
  clear c13
  obtain rfl := Option.some.inj H
  go_enter Tryz.func156, Tryz.ntmps156
  go_wp2
  go_ret
  exact ⟨sz, dz⟩
 rw [if_neg c11] at H
 have c11b0 : decide (57344 ≤ a0) = false := decide_eq_false c11
 clear c11
 by_cases c14 : a0 ≥ 65536
 ·rw [if_pos c14] at H
  have c14b0 : decide (65536 ≤ a0) = true := decide_eq_true c14
  clear c14
  obtain rfl := Option.some.inj H
  go_enter Tryz.func156, Tryz.ntmps156
  go_wp2
  go_ret
  exact ⟨sz, dz⟩
 rw [if_neg c14] at H
 have c14b0 : decide (65536 ≤ a0) = false := decide_eq_false c14
 clear c14
 obtain rfl := Option.some.inj H
 go_enter Tryz.func156, Tryz.ntmps156
 go_wp2
 go_ret
 exact ⟨sz, dz⟩
end Go.Proofs.YtgkemhgihbfmmaaGreatDoor.PA
end
section
namespace Go.Proofs.YtgkemhgihbfmmaaGreatDoor.PA
open Go.RowKit Go.Proofs.YtgkemhgihbfmmaaGreatDoorW.PrintWords Go.Proofs.YtgkemhgihbfmmaaGreatDoorW.PrintLast Go.Proofs.YtgkemhgihbfmmaaGreatDoorW.PrintMore
attribute [local go_sem] max2_int min2_int max_two min_two max_three min_three max_four min_four isSome_set str_gtr
set_option linter.unusedVariables false
set_option linter.unusedSimpArgs false
def chars_letter.f (a0 : Int) : Option (Bool) := if a0 ≥ 97 then (if a0 ≤ 122 then (some true) else (if a0 ≥ 65 then (if a0 ≤ 90 then (some true) else (some (a0 == 95))) else (some (a0 == 95)))) else (if a0 ≥ 65 then (if a0 ≤ 90 then (some true) else (some (a0 == 95))) else (some (a0 == 95)))
set_option maxHeartbeats 8000000 in
set_option maxRecDepth 100000 in
theorem chars_letter.calls (a0 : Int) (r : Bool) (w : World) (h : chars_letter.f a0 = some r) :
  Calls Tryz.prog 198 #[.int .u8 a0] w fun e w' => e = .returned (.bool r) ∧ Drawn0 w w' := by
 have H : (if a0 ≥ 97 then (if a0 ≤ 122 then (some true) else (if a0 ≥ 65 then (if a0 ≤ 90 then (some true) else (some (a0 == 95))) else (some (a0 == 95)))) else (if a0 ≥ 65 then (if a0 ≤ 90 then (some true) else (some (a0 == 95))) else (some (a0 == 95)))) = some r := h
 clear h
 by_cases c2 : a0 ≥ 97
 ·rw [if_pos c2] at H
  have c2b0 : decide (97 ≤ a0) = true := decide_eq_true c2
  clear c2
  by_cases c3 : a0 ≤ 122
  ·rw [if_pos c3] at H
   have c3b0 : decide (a0 ≤ 122) = true := decide_eq_true c3
   clear c3
   obtain rfl := Option.some.inj H
   go_enter Tryz.func198, Tryz.ntmps198
   go_wp2
   go_ret
   exact ⟨sz, dz⟩
  rw [if_neg c3] at H
  have c3b0 : decide (a0 ≤ 122) = false := decide_eq_false c3
  clear c3
  by_cases c4 : a0 ≥ 65
  ·rw [if_pos c4] at H
   have c4b0 : decide (65 ≤ a0) = true := decide_eq_true c4
   clear c4
   by_cases c5 : a0 ≤ 90
   ·rw [if_pos c5] at H
    have c5b0 : decide (a0 ≤ 90) = true := decide_eq_true c5
    clear c5
    obtain rfl := Option.some.inj H
    go_enter Tryz.func198, Tryz.ntmps198
    go_wp2
    go_ret
    exact ⟨sz, dz⟩
   rw [if_neg c5] at H
   have c5b0 : decide (a0 ≤ 90) = false := decide_eq_false c5
   clear c5
   obtain rfl := Option.some.inj H
   go_enter Tryz.func198, Tryz.ntmps198
   go_wp2
   go_ret
   exact ⟨sz, dz⟩
  rw [if_neg c4] at H
  have c4b0 : decide (65 ≤ a0) = false := decide_eq_false c4
  clear c4
  obtain rfl := Option.some.inj H
  go_enter Tryz.func198, Tryz.ntmps198
  go_wp2
  go_ret
  exact ⟨sz, dz⟩
 rw [if_neg c2] at H
 have c2b0 : decide (97 ≤ a0) = false := decide_eq_false c2
 clear c2
 by_cases c6 : a0 ≥ 65
 ·rw [if_pos c6] at H
  have c6b0 : decide (65 ≤ a0) = true := decide_eq_true c6
  clear c6
  by_cases c7 : a0 ≤ 90
  ·rw [if_pos c7] at H
   have c7b0 : decide (a0 ≤ 90) = true := decide_eq_true c7
   clear c7
   obtain rfl := Option.some.inj H
   go_enter Tryz.func198, Tryz.ntmps198
   go_wp2
   go_ret
   exact ⟨sz, dz⟩
  rw [if_neg c7] at H
  have c7b0 : decide (a0 ≤ 90) = false := decide_eq_false c7
  clear c7
  obtain rfl := Option.some.inj H
  go_enter Tryz.func198, Tryz.ntmps198
  go_wp2
  go_ret
  exact ⟨sz, dz⟩
 rw [if_neg c6] at H
 have c6b0 : decide (65 ≤ a0) = false := decide_eq_false c6
 clear c6
 obtain rfl := Option.some.inj H
 go_enter Tryz.func198, Tryz.ntmps198
 go_wp2
 go_ret
 exact ⟨sz, dz⟩
end Go.Proofs.YtgkemhgihbfmmaaGreatDoor.PA
end
section
namespace Go.Proofs.YtgkemhgihbfmmaaGreatDoor.PA
open Go.RowKit Go.Proofs.YtgkemhgihbfmmaaGreatDoorW.PrintWords Go.Proofs.YtgkemhgihbfmmaaGreatDoorW.PrintLast Go.Proofs.YtgkemhgihbfmmaaGreatDoorW.PrintMore
attribute [local go_sem] max2_int min2_int max_two min_two max_three min_three max_four min_four isSome_set str_gtr
set_option linter.unusedVariables false
set_option linter.unusedSimpArgs false
end Go.Proofs.YtgkemhgihbfmmaaGreatDoor.PA
end
section
namespace Go.Proofs.YtgkemhgihbfmmaaGreatDoor.PA
open Go.RowKit Go.Proofs.YtgkemhgihbfmmaaGreatDoorW.PrintWords Go.Proofs.YtgkemhgihbfmmaaGreatDoorW.PrintLast Go.Proofs.YtgkemhgihbfmmaaGreatDoorW.PrintMore
attribute [local go_sem] max2_int min2_int max_two min_two max_three min_three max_four min_four isSome_set str_gtr
set_option linter.unusedVariables false
set_option linter.unusedSimpArgs false
def lex_run.f (a0 : ByteArray) (a1 : ByteArray) : Option (Int) := (strings_TrimLeft.f a0 a1).bind fun t101 => (some (wrap64 ((a0.size : Int) - (t101.size : Int))))
set_option maxHeartbeats 8000000 in
set_option maxRecDepth 100000 in
theorem lex_run.calls (a0 : ByteArray) (a1 : ByteArray) (r : Int) (w : World) (h : lex_run.f a0 a1 = some r) :
  Calls Tryz.prog 105 #[.string a0, .string a1] w fun e w' => e = .returned (.int .i64 r) ∧ Below w.heap.size w w' := by
 have HB := am (Below.refl w.heap.size w)
 have H : ((strings_TrimLeft.f a0 a1).bind fun t101 => (some (wrap64 ((a0.size : Int) - (t101.size : Int))))) = some r := h
 clear h
 replace H := obe H
 obtain ⟨t101, A3, H⟩ := H
 obtain rfl := Option.some.inj H
 go_enter Tryz.func105, Tryz.ntmps105
 go_wp2_with (first | ((with_reducible refine gate_callee (f := 144) rfl ?_); refine gl_ (some 9) Tryz.func144 (by kernel_rfl) #[.string a0, .string a1] rfl ?_; (with_reducible refine (strings_TrimLeft.calls a0 a1 t101 _ A3.out).mono ?_); rintro e w4 ⟨rfl, hb⟩; refine ⟨_, rfl, ?_⟩; replace HB := sb HB hb; clear hb))
 go_ret
 exact ⟨az, bz HB.out⟩
end Go.Proofs.YtgkemhgihbfmmaaGreatDoor.PA
end
section
namespace Go.Proofs.YtgkemhgihbfmmaaGreatDoor.PA
open Go.RowKit Go.Proofs.YtgkemhgihbfmmaaGreatDoorW.PrintWords Go.Proofs.YtgkemhgihbfmmaaGreatDoorW.PrintLast Go.Proofs.YtgkemhgihbfmmaaGreatDoorW.PrintMore
attribute [local go_sem] max2_int min2_int max_two min_two max_three min_three max_four min_four isSome_set str_gtr
set_option linter.unusedVariables false
set_option linter.unusedSimpArgs false
end Go.Proofs.YtgkemhgihbfmmaaGreatDoor.PA
end
section
namespace Go.Proofs.YtgkemhgihbfmmaaGreatDoor.PA
open Go.RowKit Go.Lib Go.Proofs.YtgkemhgihbfmmaaGreatDoorW.PrintWords Go.Proofs.YtgkemhgihbfmmaaGreatDoorW.PrintLast Go.Proofs.YtgkemhgihbfmmaaGreatDoorW.PrintMore
def badAt (s : ByteArray) (pos : Nat) : Bool := ((Utf8.decode s pos).1 == 65533 && (Utf8.decode s pos).2 == 1) || !((chars_sign.f (Utf8.decode s pos).1).getD false)
def badFrom (s : ByteArray) : Nat → Nat → Int
  | 0, _ => -1
  | f + 1, pos => if pos < s.size then (if badAt s pos then (pos : Int) else badFrom s f (pos + (Utf8.decode s pos).2)) else -1
def chars_Bad.f (a0 : ByteArray) : Option Int := if a0.size < 4611686018427387904 then some (badFrom a0 a0.size 0) else none
theorem sign_some (n : Int) : chars_sign.f n = some ((chars_sign.f n).getD false) := by
  unfold chars_sign.f
  repeat' split
  all_goals rfl
theorem decodeGo_tail (s : ByteArray) (pos : Nat) (h : pos < s.size) : Lib.decodeGo (s.extract pos s.size) = Utf8.decode s pos := by
  show (if (s.extract pos s.size).size = 0 then (65533, 0) else Utf8.decode (s.extract pos s.size) 0) = _
  rw [if_neg (by simp only [ByteArray.size_extract]; omega), tail_decode, Nat.add_zero]
set_option maxHeartbeats 4000000 in
set_option maxRecDepth 1000000 in
theorem chars_Bad.calls (a0 : ByteArray) (r : Int) (w : World) (hT : Tabs w) (h : chars_Bad.f a0 = some r) :
    Calls Tryz.prog 116 #[.string a0] w fun e w' => e = .returned (.int .i64 r) ∧ Below w.heap.size w w' := by
  unfold chars_Bad.f at h
  split at h
  rotate_left
  · cases h
  rename_i hbig
  obtain rfl := Option.some.inj h
  clear h
  have e155 : ∀ args w, (callFunc 155 args).run Tryz.prog w = .ok (.enter 155 args) w := enters_of Tryz.func155 (by kernel_rfl) rfl
  have e156 : ∀ args w, (callFunc 156 args).run Tryz.prog w = .ok (.enter 156 args) w := enters_of Tryz.func156 (by kernel_rfl) rfl
  go_enter Tryz.func116, Tryz.ntmps116
  go_wp2
  go_loopg [] a0.size (fun g wx => ∃ pos : Nat, wx.heap[w.heap.size]? = some (.stringIter a0 pos) ∧ Below w.heap.size w wx ∧ badFrom a0 g pos = badFrom a0 a0.size 0 ∧ a0.size ≤ pos + g)
  case atStart => exact ⟨0, World.iter_heap w a0 0, (Below.refl _ w).alloc (Nat.le_refl _) _, rfl, by omega⟩
  case round =>
    obtain ⟨pos, hit, hbw, hleft, hfu⟩ := hrel
    have hsz : w.heap.size < wr.heap.size := (Array.getElem?_eq_some_iff.1 hit).1
    by_cases hp : pos < a0.size
    · obtain ⟨g, rfl⟩ : ∃ g, gk = g + 1 := ⟨gk - 1, by omega⟩
      have hnx : ∀ ty, (Instr.next (.pointer (some ⟨w.heap.size, 0, none⟩)) true ty).run Tryz.prog wr = _ := fun ty => Lib.run_next_any_at wr w.heap.size a0 pos ty hit hp
      have hwd := Lib.width_pos a0 pos
      have hr1 := Lib.rune_le a0 pos
      have hdg := decodeGo_tail a0 pos hp
      have hba : badAt a0 pos = (((Utf8.decode a0 pos).1 == 65533 && (Utf8.decode a0 pos).2 == 1) || !((chars_sign.f (Utf8.decode a0 pos).1).getD false)) := rfl
      have hsg := sign_some ((Utf8.decode a0 pos).1 : Int)
      simp only [badFrom, hp, if_true] at hleft
      obtain ⟨R, hR⟩ : ∃ R, (Utf8.decode a0 pos).1 = R := ⟨_, rfl⟩
      obtain ⟨K, hK⟩ : ∃ K, (Utf8.decode a0 pos).2 = K := ⟨_, rfl⟩
      obtain ⟨b, hb0⟩ : ∃ b, (chars_sign.f (R : Int)).getD false = b := ⟨_, rfl⟩
      rw [hR, hK] at hnx hba
      rw [hK] at hleft hwd
      rw [hR] at hr1 hsg
      rw [hb0] at hba hsg
      have hd1 : (Lib.decodeGo (a0.extract pos a0.size)).1 = R := by rw [hdg]; exact hR
      have hd2 : (Lib.decodeGo (a0.extract pos a0.size)).2 = K := by rw [hdg]; exact hK
      have hit2 := Lib.iterAt_heap wr w.heap.size a0 pos (pos + K) hit
      have hbw2 := Lib.below_iterAt hbw (k := w.heap.size) (Nat.le_refl _) a0 (pos + K)
      obtain ⟨W, hWd⟩ : ∃ W, wr.iterAt w.heap.size a0 (pos + K) = W := ⟨_, rfl⟩
      rw [hWd] at hnx hit2 hbw2
      have cD := Tryz.utf8_DecodeRuneInString (a0.extract pos a0.size) W (Utf8Tabs_below hT.utf hbw2)
      rw [hd1, hd2] at cD
      have cS : ∀ W', Calls Tryz.prog 156 #[.int .i32 (R : Int)] W' fun e w' => e = .returned (.bool b) ∧ Drawn0 W' w' := fun W' => chars_sign.calls (R : Int) b W' hsg
      have hWs : w.heap.size < W.heap.size := (Array.getElem?_eq_some_iff.1 hit2).1
      have i1 : ((pos : Int) ≤ (a0.size : Int)) = True := eq_true (by omega)
      have i2 : ((0 : Int) ≤ (pos : Int)) = True := eq_true (by omega)
      clear hdg hd1 hd2 hR hK hWd hsg hb0 hit hT
      by_cases q1 : R = 65533
      · subst q1
        have cS1 : ∀ W', Calls Tryz.prog 156 #[.int .i32 65533] W' fun e w' => e = .returned (.bool b) ∧ Drawn0 W' w' := cS
        clear cS
        by_cases q2 : K = 1
        · have f2 : ((K : Int) == 1) = true := by subst q2; rfl
          have hbad : badAt a0 pos = true := by rw [hba, q2]; rfl
          go_wp2_with (go_at_fn 155; refine cD.mono ?_; rintro e W' ⟨rfl, hb⟩)
          go_ret
          exact ⟨by rw [← hleft, hbad]; rfl, hbw2.trans (hb.mono (by omega))⟩
        · have f2 : ((K : Int) == 1) = false := beq_eq_false_iff_ne.mpr (by omega)
          cases b with
          | true =>
            have hbad : badAt a0 pos = false := by rw [hba]; simp [q2]
            rw [hbad] at hleft
            go_wp2_with (first | (go_at_call 155; refine cD.mono ?_; rintro e W' ⟨rfl, hb⟩; have cS2 := cS1 W') | (go_at_call 156; go_fit cS2; rintro e W2 ⟨rfl, nd, rfl⟩))
            go_roundg g
            case measure => omega
            case rel => exact ⟨pos + K, (hb.block w.heap.size hWs).trans hit2, pw_below_drewN (hbw2.trans (hb.mono (by omega))) nd, hleft, by omega⟩
          | false =>
            have hbad : badAt a0 pos = true := by rw [hba]; simp
            go_wp2_with (first | (go_at_call 155; refine cD.mono ?_; rintro e W' ⟨rfl, hb⟩; have cS2 := cS1 W') | (go_at_call 156; go_fit cS2; rintro e W2 ⟨rfl, nd, rfl⟩))
            go_ret
            exact ⟨by rw [← hleft, hbad]; rfl, pw_below_drewN (hbw2.trans (hb.mono (by omega))) nd⟩
      · have f1 : ((R : Int) == 65533) = false := beq_eq_false_iff_ne.mpr (by omega)
        cases b with
        | true =>
          have hbad : badAt a0 pos = false := by rw [hba]; simp [q1]
          rw [hbad] at hleft
          go_wp2_with (first | (go_at_call 155; refine cD.mono ?_; rintro e W' ⟨rfl, hb⟩; have cS2 := cS W') | (go_at_call 156; go_fit cS2; rintro e W2 ⟨rfl, nd, rfl⟩))
          go_roundg g
          case measure => omega
          case rel => exact ⟨pos + K, (hb.block w.heap.size hWs).trans hit2, pw_below_drewN (hbw2.trans (hb.mono (by omega))) nd, hleft, by omega⟩
        | false =>
          have hbad : badAt a0 pos = true := by rw [hba]; simp
          go_wp2_with (first | (go_at_call 155; refine cD.mono ?_; rintro e W' ⟨rfl, hb⟩; have cS2 := cS W') | (go_at_call 156; go_fit cS2; rintro e W2 ⟨rfl, nd, rfl⟩))
          go_ret
          exact ⟨by rw [← hleft, hbad]; rfl, pw_below_drewN (hbw2.trans (hb.mono (by omega))) nd⟩
    · have hnx : ∀ ty, (Instr.next (.pointer (some ⟨w.heap.size, 0, none⟩)) true ty).run Tryz.prog wr = _ := fun ty => Lib.run_next_end_at wr w.heap.size a0 pos ty hit hp
      have hl : badFrom a0 gk pos = -1 := by
        cases gk with
        | zero => rfl
        | succ g => simp only [badFrom, hp, if_false]
      go_wp2
      go_ret
      exact ⟨by rw [← hleft, hl] <;> rfl, hbw⟩
def okByte (n : Int) : Bool := (chars_letter.f n).getD false || (decide (48 ≤ n) && decide (n ≤ 57))
def chars_Name.f (a0 : ByteArray) : Option Bool := if a0.size < 4611686018427387904 then some (decide (0 < a0.size) && (decide (a0.size ≤ 32) && ((chars_letter.f (bt a0 0)).getD false && a0.data.toList.all fun b => okByte b.toNat))) else none
theorem letter_some (n : Int) : chars_letter.f n = some ((chars_letter.f n).getD false) := by
  unfold chars_letter.f
  repeat' split
  all_goals rfl
theorem all_of_upto {α : Type} (p : α → Bool) : ∀ (l : List α), (∀ j (h : j < l.length), p l[j] = true) → l.all p = true := fun l h => List.all_eq_true.2 fun x hx => by
  obtain ⟨j, hj, rfl⟩ := List.getElem_of_mem hx
  exact h j hj
set_option maxHeartbeats 4000000 in
set_option maxRecDepth 1000000 in
theorem chars_Name.calls (a0 : ByteArray) (r : Bool) (w : World) (h : chars_Name.f a0 = some r) :
    Calls Tryz.prog 151 #[.string a0] w fun e w' => e = .returned (.bool r) ∧ Below w.heap.size w w' := by
  unfold chars_Name.f at h
  split at h
  rotate_left
  · cases h
  rename_i hbig
  obtain rfl := Option.some.inj h
  clear h
  by_cases h0 : 0 < a0.size
  rotate_left
  · have hz : (a0.toList == ([] : List UInt8)) = true := by
      have : a0 = ⟨#[]⟩ := by
        obtain ⟨⟨l⟩⟩ := a0
        match l, h0 with
        | [], _ => rfl
        | x :: t, h => exact absurd (Nat.succ_pos _) h
      subst this
      rw [Lib.toList_data]
      rfl
    rw [show (decide (0 < a0.size) && (decide (a0.size ≤ 32) && ((chars_letter.f (bt a0 0)).getD false && a0.data.toList.all fun b => okByte b.toNat))) = false by rw [decide_eq_false h0]; rfl]
    go_enter Tryz.func151, Tryz.ntmps151
    go_wp2
    go_ret
    exact ⟨rfl, Below.refl _ _⟩
  have hz : (a0.toList == ([] : List UInt8)) = false := beq_eq_false_iff_ne.mpr fun e => by
    rw [Lib.toList_data] at e
    have h1 : a0.data.toList.length = 0 := by rw [e]; rfl
    have h2 : a0.size = a0.data.toList.length := by rw [Array.length_toList]; rfl
    omega
  by_cases h32 : a0.size ≤ 32
  rotate_left
  · have c32 : decide (32 < (a0.size : Int)) = true := decide_eq_true (by omega)
    rw [show (decide (0 < a0.size) && (decide (a0.size ≤ 32) && ((chars_letter.f (bt a0 0)).getD false && a0.data.toList.all fun b => okByte b.toNat))) = false by rw [decide_eq_false h32]; simp only [Bool.false_and, Bool.and_false]]
    go_enter Tryz.func151, Tryz.ntmps151
    go_wp2
    go_ret
    exact ⟨rfl, Below.refl _ _⟩
  have c32 : decide (32 < (a0.size : Int)) = false := decide_eq_false (by omega)
  have e198 : ∀ args w, (callFunc 198 args).run Tryz.prog w = .ok (.enter 198 args) w := enters_of Tryz.func198 (by kernel_rfl) rfl
  have cL : ∀ (n : Int) (W : World), Calls Tryz.prog 198 #[.int .u8 n] W fun e w' => e = .returned (.bool ((chars_letter.f n).getD false)) ∧ Drawn0 W w' := fun n W => chars_letter.calls n _ W (letter_some n)
  have hx : ∀ h : 0 < a0.size, ((a0[0]'h).toNat : Int) = bt a0 0 := bt_at a0 0
  have q0 : ((0 : Int) < (a0.size : Int)) = True := eq_true (by omega)
  obtain ⟨b0, hb0⟩ : ∃ b, bt a0 0 = b := ⟨_, rfl⟩
  rw [hb0] at hx ⊢
  cases hl : (chars_letter.f b0).getD false with
  | false =>
    have cL0 := cL b0
    rw [hl] at cL0
    rw [show (decide (0 < a0.size) && (decide (a0.size ≤ 32) && (false && a0.data.toList.all fun b => okByte b.toNat))) = false by simp only [Bool.false_and, Bool.and_false]]
    go_enter Tryz.func151, Tryz.ntmps151
    go_wp2_with (go_at_call 198; refine (cL0 _).mono ?_; rintro e w' ⟨rfl, nd, rfl⟩)
    go_ret
    exact ⟨rfl, pw_below_drewN (Below.refl _ _) nd⟩
  | true =>
    have cL0 := cL b0
    rw [hl] at cL0
    rw [show (decide (0 < a0.size) && (decide (a0.size ≤ 32) && (true && a0.data.toList.all fun b => okByte b.toNat))) = a0.data.toList.all (fun b => okByte b.toNat) by rw [decide_eq_true h0, decide_eq_true h32]; simp only [Bool.true_and]]
    go_enter Tryz.func151, Tryz.ntmps151
    go_wp2_with (go_at_call 198; refine (cL0 _).mono ?_; rintro e w' ⟨rfl, nd, rfl⟩)
    rw [Lib.run_convert_string_bytes _ 9 162 5 a0 (u := .string) Tryz.underlying9 Tryz.underlying162 Tryz.underlying5]
    simp only [Result.andThen]
    rw [Oper.upon_value]
    have hcl := fun j hj => Lib.bytesWorld_cell (w.drewN nd) 5 a0 j hj
    have hbw := Lib.bytesWorld_below (w.drewN nd) 5 a0
    have hsz1 := Lib.bytesWorld_size (w.drewN nd) 5 a0
    obtain ⟨cap, hcap⟩ : ∃ c, grownCap (w.drewN nd) a0.size 0 5 = c := ⟨_, rfl⟩
    obtain ⟨W1, hW1⟩ : ∃ W1, Lib.bytesWorld (w.drewN nd) 5 a0 = W1 := ⟨_, rfl⟩
    try rw [hcap]
    rw [hW1] at hcl hbw hsz1 ⊢
    replace hcl : ∀ j, j < a0.size → W1.cell? ⟨w.heap.size, j, none⟩ = some (.int .u8 (a0.data.toList.getD j 0).toNat) := hcl
    replace hbw : Below w.heap.size w W1 := (pw_below_drewN (Below.refl _ _) nd).trans hbw
    replace hsz1 : W1.heap.size = w.heap.size + 1 := hsz1
    have HB := Aside0.mk hbw
    have HC := Aside0.mk hcl
    clear hW1 hbw hcl hz hx hl
    simp only [Act.put, List.setIfInBounds_toArray, List.set_cons_zero, List.set_cons_succ]
    clear hcap
    go_wp2
    go_loopg [21] a0.size (fun gg s21 wr => ∃ kk : Nat, kk ≤ a0.size ∧ a0.size - kk ≤ gg ∧ s21 = .int .i64 kk ∧ Aside0 (Below W1.heap.size W1 wr) ∧ Aside0 (∀ j (h : j < a0.data.toList.length), j < kk → okByte a0.data.toList[j].toNat = true))
    case atStart => exact ⟨0, Nat.zero_le _, by omega, rfl, ⟨Below.refl _ _⟩, ⟨fun j _ hj => absurd hj (Nat.not_lt_zero _)⟩⟩
    case round =>
      obtain ⟨kk, hkk, hg, rfl, BW, A⟩ := hrel
      by_cases hlt : kk < a0.size
      · have d1 : decide ((kk : Int) < (a0.size : Int)) = true := decide_eq_true (by omega)
        have i1 : ((0 : Int) ≤ (kk : Int)) = True := eq_true (by omega)
        have i2 : ((kk : Int) < (a0.size : Int)) = True := eq_true (by omega)
        have i3 : (kk < a0.size) = True := eq_true hlt
        have hcell := (BW.out.cell (p := ⟨w.heap.size, kk, none⟩) (by show w.heap.size < W1.heap.size; omega)).trans (HC.out kk hlt)
        have hlen : kk < a0.data.toList.length := by rw [Array.length_toList]; exact hlt
        have hgd : a0.data.toList.getD kk 0 = a0.data.toList[kk] := by simp [List.getD_eq_getElem?_getD, List.getElem?_eq_getElem hlen]
        have HV : Aside0 (a0.data.toList[kk] = a0.data.toList.getD kk 0) := ⟨hgd.symm⟩
        have hrng : (a0.data.toList.getD kk 0).toNat < 256 := UInt8.toNat_lt _
        clear hgd
        generalize a0.data.toList.getD kk 0 = by_ at hcell HV hrng
        have hk2 : okByte (by_.toNat : Int) = ((chars_letter.f (by_.toNat : Int)).getD false || (decide (48 ≤ (by_.toNat : Int)) && decide ((by_.toNat : Int) ≤ 57))) := rfl
        obtain ⟨n, hn⟩ : ∃ n : Int, (by_.toNat : Int) = n := ⟨_, rfl⟩
        have HN := Aside0.mk hn
        rw [hn] at hcell hk2
        clear hn
        have cL1 := cL n
        have hstep : okByte n = true → Aside0 (∀ j (h : j < a0.data.toList.length), j < kk + 1 → okByte a0.data.toList[j].toNat = true) := fun ho => ⟨fun j h hj => by
          by_cases e : j = kk
          · subst e
            rw [HV.out, HN.out]
            exact ho
          · exact A.out j h (by omega)⟩
        have hfin : okByte n = false → a0.data.toList.all (fun b => okByte b.toNat) = false := fun ho => List.all_eq_false.2 ⟨a0.data.toList[kk], List.getElem_mem hlen, by rw [HV.out, HN.out, ho]; exact Bool.false_ne_true⟩
        have HS := Aside0.mk hstep
        have HF := Aside0.mk hfin
        clear hstep hfin
        cases hl2 : (chars_letter.f n).getD false with
        | true =>
          rw [hl2] at cL1 hk2
          have HO := Aside0.mk (show okByte n = true by rw [hk2]; rfl)
          clear hk2 hl2
          go_wp2_with (go_at_call 198; refine (cL1 _).mono ?_; rintro e w' ⟨rfl, nd2, rfl⟩)
          go_roundg (a0.size - (kk + 1))
          case measure => omega
          case rel => exact ⟨kk + 1, by omega, by omega, by go_num, ⟨pw_below_drewN BW.out nd2⟩, HS.out HO.out⟩
        | false =>
          rw [hl2] at cL1 hk2
          by_cases q1 : n < 48
          · have f1 : decide (n < 48) = true := decide_eq_true q1
            have HO := Aside0.mk (show okByte n = false by rw [hk2, decide_eq_false (show ¬ 48 ≤ n by omega)]; rfl)
            clear hk2 hl2
            go_wp2_with (go_at_call 198; refine (cL1 _).mono ?_; rintro e w' ⟨rfl, nd2, rfl⟩)
            go_ret
            exact ⟨by rw [HF.out HO.out] <;> rfl, pw_below_drewN (HB.out.trans (BW.out.mono (by omega))) nd2⟩
          · have f1 : decide (n < 48) = false := decide_eq_false q1
            by_cases q2 : 57 < n
            · have f2 : decide (57 < n) = true := decide_eq_true q2
              have HO := Aside0.mk (show okByte n = false by rw [hk2, decide_eq_false (show ¬ n ≤ 57 by omega)]; simp)
              clear hk2 hl2
              go_wp2_with (go_at_call 198; refine (cL1 _).mono ?_; rintro e w' ⟨rfl, nd2, rfl⟩)
              go_ret
              exact ⟨by rw [HF.out HO.out] <;> rfl, pw_below_drewN (HB.out.trans (BW.out.mono (by omega))) nd2⟩
            · have f2 : decide (57 < n) = false := decide_eq_false q2
              have HO := Aside0.mk (show okByte n = true by rw [hk2, decide_eq_true (show n ≤ 57 by omega), decide_eq_true (show 48 ≤ n by omega)]; rfl)
              clear hk2 hl2
              go_wp2_with (go_at_call 198; refine (cL1 _).mono ?_; rintro e w' ⟨rfl, nd2, rfl⟩)
              go_roundg (a0.size - (kk + 1))
              case measure => omega
              case rel => exact ⟨kk + 1, by omega, by omega, by go_num, ⟨pw_below_drewN BW.out nd2⟩, HS.out HO.out⟩
      · have d1 : decide ((kk : Int) < (a0.size : Int)) = false := decide_eq_false (by omega)
        have hall : a0.data.toList.all (fun b => okByte b.toNat) = true := all_of_upto _ _ fun j h => A.out j h (by rw [Array.length_toList] at h; have : a0.data.size = a0.size := rfl; omega)
        go_wp2
        go_ret
        exact ⟨by rw [hall] <;> rfl, HB.out.trans (BW.out.mono (by omega))⟩
end Go.Proofs.YtgkemhgihbfmmaaGreatDoor.PA
end
section
namespace Go.Proofs.YtgkemhgihbfmmaaGreatDoor.PA
open Go.RowKit Go.Proofs.YtgkemhgihbfmmaaGreatDoorW.PrintWords Go.Proofs.YtgkemhgihbfmmaaGreatDoorW.PrintLast Go.Proofs.YtgkemhgihbfmmaaGreatDoorW.PrintMore
attribute [local go_sem] max2_int min2_int max_two min_two max_three min_three max_four min_four isSome_set str_gtr
set_option linter.unusedVariables false
set_option linter.unusedSimpArgs false
def chars_Good.f (a0 : ByteArray) : Option (Bool) := (chars_Bad.f a0).bind fun t102 => (some (decide (t102 < 0)))
set_option maxHeartbeats 8000000 in
set_option maxRecDepth 100000 in
theorem chars_Good.calls (a0 : ByteArray) (r : Bool) (w : World) (hT : Tabs w) (h : chars_Good.f a0 = some r) :
  Calls Tryz.prog 71 #[.string a0] w fun e w' => e = .returned (.bool r) ∧ Below w.heap.size w w' := by
 have HT := am hT
 clear hT
 have HB := am (Below.refl w.heap.size w)
 have H : ((chars_Bad.f a0).bind fun t102 => (some (decide (t102 < 0)))) = some r := h
 clear h
 replace H := obe H
 obtain ⟨t102, A2, H⟩ := H
 obtain rfl := Option.some.inj H
 go_enter Tryz.func71, Tryz.ntmps71
 go_wp2_with (first | ((with_reducible refine gate_callee (f := 116) rfl ?_); refine gl_ (some 4) Tryz.func116 (by kernel_rfl) #[.string a0] rfl ?_; (with_reducible refine (chars_Bad.calls a0 t102 _ ?side1 A2.out).mono ?_); (case side1 => exact tabs_of HT.out (bz HB.out)); rintro e w3 ⟨rfl, hb⟩; refine ⟨_, rfl, ?_⟩; replace HB := sb HB hb; clear hb))
 go_ret
 exact ⟨az, bz HB.out⟩
end Go.Proofs.YtgkemhgihbfmmaaGreatDoor.PA
end
section
namespace Go.Proofs.YtgkemhgihbfmmaaGreatDoor.PA
open Go.RowKit Go.Proofs.YtgkemhgihbfmmaaGreatDoorW.PrintWords Go.Proofs.YtgkemhgihbfmmaaGreatDoorW.PrintLast Go.Proofs.YtgkemhgihbfmmaaGreatDoorW.PrintMore
attribute [local go_sem] max2_int min2_int max_two min_two max_three min_three max_four min_four isSome_set str_gtr
set_option linter.unusedVariables false
set_option linter.unusedSimpArgs false
def stringslite_HasPrefix.f (a0 : ByteArray) (a1 : ByteArray) : Option (Bool) := if (a0.size : Int) ≥ (a1.size : Int) then (if 0 ≤ (a1.size : Int) then (if (a1.size : Int) ≤ (a0.size : Int) then (some ((a0.extract 0 ((a1.size : Int) : Int).toNat).toList == a1.toList)) else (none)) else (none)) else (some false)
set_option maxHeartbeats 8000000 in
set_option maxRecDepth 100000 in
theorem stringslite_HasPrefix.calls (a0 : ByteArray) (a1 : ByteArray) (r : Bool) (w : World) (h : stringslite_HasPrefix.f a0 a1 = some r) :
  Calls Tryz.prog 168 #[.string a0, .string a1] w fun e w' => e = .returned (.bool r) ∧ Drawn0 w w' := by
 have H : (if (a0.size : Int) ≥ (a1.size : Int) then (if 0 ≤ (a1.size : Int) then (if (a1.size : Int) ≤ (a0.size : Int) then (some ((a0.extract 0 ((a1.size : Int) : Int).toNat).toList == a1.toList)) else (none)) else (none)) else (some false)) = some r := h
 clear h
 by_cases c3 : (a0.size : Int) ≥ (a1.size : Int)
 ·rw [if_pos c3] at H
  have c3b0 : decide ((a1.size : Int) ≤ (a0.size : Int)) = true := decide_eq_true c3
  have c3b1 : decide (a1.size ≤ a0.size) = true := decide_eq_true (Int.ofNat_le.mp c3)
  clear c3
  by_cases c4 : 0 ≤ (a1.size : Int)
  ·rw [if_pos c4] at H
   have c4b0 := eq_true c4
   have c4b1 : decide (0 ≤ (a1.size : Int)) = true := decide_eq_true c4
   clear c4
   by_cases c5 : (a1.size : Int) ≤ (a0.size : Int)
   ·rw [if_pos c5] at H
    have c5b0 := eq_true c5
    have c5b1 : decide ((a1.size : Int) ≤ (a0.size : Int)) = true := decide_eq_true c5
    clear c5
    obtain rfl := Option.some.inj H
    go_enter Tryz.func168, Tryz.ntmps168
    go_wp2
    go_ret
    exact ⟨sz, dz⟩
   rw [if_neg c5] at H
   exact absurd H (by simp)
  rw [if_neg c4] at H
  exact absurd H (by simp)
 rw [if_neg c3] at H
 have c3b0 : decide ((a1.size : Int) ≤ (a0.size : Int)) = false := decide_eq_false c3
 have c3b1 : decide (a1.size ≤ a0.size) = false := decide_eq_false (fun h => c3 (Int.ofNat_le.mpr h))
 clear c3
 obtain rfl := Option.some.inj H
 go_enter Tryz.func168, Tryz.ntmps168
 go_wp2
 go_ret
 exact ⟨sz, dz⟩
end Go.Proofs.YtgkemhgihbfmmaaGreatDoor.PA
end
section
namespace Go.Proofs.YtgkemhgihbfmmaaGreatDoor.PA
open Go.RowKit Go.Proofs.YtgkemhgihbfmmaaGreatDoorW.PrintWords Go.Proofs.YtgkemhgihbfmmaaGreatDoorW.PrintLast Go.Proofs.YtgkemhgihbfmmaaGreatDoorW.PrintMore
attribute [local go_sem] max2_int min2_int max_two min_two max_three min_three max_four min_four isSome_set str_gtr
set_option linter.unusedVariables false
set_option linter.unusedSimpArgs false
def strings_HasPrefix.f (a0 : ByteArray) (a1 : ByteArray) : Option (Bool) := (stringslite_HasPrefix.f a0 a1).bind fun t103 => (some t103)
set_option maxHeartbeats 8000000 in
set_option maxRecDepth 100000 in
theorem strings_HasPrefix.calls (a0 : ByteArray) (a1 : ByteArray) (r : Bool) (w : World) (h : strings_HasPrefix.f a0 a1 = some r) :
  Calls Tryz.prog 132 #[.string a0, .string a1] w fun e w' => e = .returned (.bool r) ∧ Drawn0 w w' := by
 have H : ((stringslite_HasPrefix.f a0 a1).bind fun t103 => (some t103)) = some r := h
 clear h
 replace H := obe H
 obtain ⟨t103, A3, H⟩ := H
 obtain rfl := Option.some.inj H
 go_enter Tryz.func132, Tryz.ntmps132
 go_wp2_with (first | ((with_reducible refine gate_callee (f := 168) rfl ?_); refine gl_ (some 7) Tryz.func168 (by kernel_rfl) #[.string a0, .string a1] rfl ?_; (with_reducible refine (stringslite_HasPrefix.calls a0 a1 t103 _ A3.out).mono ?_); rintro e w' ⟨rfl, ⟨nd, rfl⟩⟩; refine ⟨_, rfl, ?_⟩))
 go_ret
 exact ⟨sz, dz⟩
end Go.Proofs.YtgkemhgihbfmmaaGreatDoor.PA
end
section
namespace Go.Proofs.YtgkemhgihbfmmaaGreatDoor.PA
open Go.RowKit Go.Proofs.YtgkemhgihbfmmaaGreatDoorW.PrintWords Go.Proofs.YtgkemhgihbfmmaaGreatDoorW.PrintLast Go.Proofs.YtgkemhgihbfmmaaGreatDoorW.PrintMore
attribute [local go_sem] max2_int min2_int max_two min_two max_three min_three max_four min_four isSome_set str_gtr
set_option linter.unusedVariables false
set_option linter.unusedSimpArgs false
end Go.Proofs.YtgkemhgihbfmmaaGreatDoor.PA
end
section
namespace Go.Proofs.YtgkemhgihbfmmaaGreatDoor.PA
open Go.RowKit Go.Proofs.YtgkemhgihbfmmaaGreatDoorW.PrintWords Go.Proofs.YtgkemhgihbfmmaaGreatDoorW.PrintLast Go.Proofs.YtgkemhgihbfmmaaGreatDoorW.PrintMore
attribute [local go_sem] max2_int min2_int max_two min_two max_three min_three max_four min_four isSome_set str_gtr
set_option linter.unusedVariables false
set_option linter.unusedSimpArgs false
def deci_form_short.l0 : Nat → Int → Int → Option (Int × Int)
 | 0, _, _ => none
 | k + 1, x105000, x105001 => if x105001 > 0 then (if (Int.tmod x105000 10) = 0 then (deci_form_short.l0 k (IntKind.u64.wrap (Int.tdiv x105000 10)) (wrap64 (x105001 - 1))) else (some (x105000, x105001))) else (some (x105000, x105001))
def deci_form_short.f (k : Nat) (a0_0 a0_1 : Int) : Option (Int × Int) := deci_form_short.l0 k a0_0 a0_1
theorem deci_form_short.mono_l : ∀ k, (∀ y0 y1, LeO (deci_form_short.l0 k y0 y1) (deci_form_short.l0 (k + 1) y0 y1))
 | 0 => fun _ _ r h => by simp [deci_form_short.l0] at h
 | k + 1 => by
  have ih0 := deci_form_short.mono_l k
  ·intro y0 y1
   unfold deci_form_short.l0
   exact lmo
theorem deci_form_short.mono : ∀ a0 a1 k, LeO (deci_form_short.f k a0 a1) (deci_form_short.f (k + 1) a0 a1) := by
 intro a0 a1 k
 have ih0 := deci_form_short.mono_l k
 unfold deci_form_short.f
 exact lmo
set_option maxHeartbeats 8000000 in
set_option maxRecDepth 100000 in
theorem deci_form_short.calls (k : Nat) (a0_0 a0_1 r1 r2 : Int) (w : World) (h : deci_form_short.f k a0_0 a0_1 = some (r1, r2)) :
  Calls Tryz.prog 84 #[.agg #[.int .u64 a0_0, .int .i64 a0_1]] w fun e w' => e = .returned (.agg #[.int .u64 r1, .int .i64 r2]) ∧ Below w.heap.size w w' := by
 have hu77 := Tryz.underlying77
 have HB := am (Below.refl w.heap.size w)
 have H : (deci_form_short.l0 k a0_0 a0_1) = some (r1, r2) := h
 clear h
 have H' := am H
 clear H
 go_enter Tryz.func84, Tryz.ntmps84
 go_wp2_with (first | ((with_reducible refine gate_dst (N := 1) rfl ?_); refine bev (#[.int .u64 a0_0, .int .i64 a0_1]) 77 ?_; intro gb104 hg w2 hbox hb; have BK104 := am (hbox); have GW104 := gs hg HB; have GE104 := GW104; replace HB := sb HB hb; clear hb hbox hg) | ((with_reducible refine gate_dst (N := 2) rfl ?_); refine bev (#[.int .u64 0, .int .i64 0]) 77 ?_; intro gb105 hg w3 hbox hb; have BK105 := am (hbox); have GW105 := gs hg HB; have GE105 := GW105; replace HB := sb HB hb; have NB104_105 := na hg BK104; have NB105_104 := nb hg BK104; replace BK104 := kb BK104 hb; clear hb hbox hg))
 (try simp only [Act.put, List.setIfInBounds_toArray, List.set_cons_succ, List.set_cons_zero])
 go_loopg [] k (fun kq w' => ∃ (x105000_1 x105001_1 : Int), Aside0 (deci_form_short.l0 kq x105000_1 x105001_1 = some (r1, r2)) ∧ Aside0 (kq ≤ k) ∧ Aside0 (w'.heap[gb104]? = some (.cells #[.int .u64 x105000_1, .int .i64 x105001_1] 77 (0, 0))) ∧ Aside0 (w'.heap[gb105]? = some (.cells #[.int .u64 0, .int .i64 0] 77 (0, 0))) ∧ Aside0 (Below w.heap.size w w'))
 case atStart => exact ⟨(a0_0), (a0_1), H', ⟨Nat.le_refl _⟩, ⟨bk BK104.out⟩, ⟨bk BK105.out⟩, ⟨bz HB.out⟩⟩
 case round =>
  clear H'
  skip
  obtain ⟨x105000_1, x105001_1, HA, HK1, BK104, BK105, HB⟩ := hrel
  cases gk with
  | zero => exact absurd HA.out (by simp [deci_form_short.l0])
  | succ k1 =>
   have H := HA.out
   clear HA
   simp only [deci_form_short.l0] at H
   by_cases c4 : x105001_1 > 0
   ·rw [if_pos c4] at H
    have c4b0 : decide (0 < x105001_1) = true := decide_eq_true c4
    clear c4
    have HC5 := am H
    clear H
    have hnb6 := NB104_105.out
    have hnc6 := NB105_104.out
    obtain ⟨Z7_0, Z7_1, F7_0, F7_1⟩ := cz2 BK104.out
    go_upto_if 11 with (fail)
    have H := HC5.out
    clear HC5
    clear Z7_0 Z7_1 F7_0 F7_1
    by_cases c8 : (Int.tmod x105000_1 10) = 0
    ·replace H := ipe c8 H
     obtain ⟨H, c8b0, c8b1⟩ := H
     clear c8
     (first | rw [c8b0] | (simp only [i64_w, i32_w]; rw [c8b0]) | skip)
     have H' := am H
     clear H
     have hnb9 := NB104_105.out
     have hnc9 := NB105_104.out
     obtain ⟨Z10_0, Z10_1, F10_0, F10_1⟩ := cz2 BK104.out
     go_wp2
     go_roundg k1
     case measure => have := HK1.out; omega
     case rel => exact ⟨(IntKind.u64.wrap (Int.tdiv x105000_1 10)), (wrap64 (x105001_1 - 1)), H', ⟨by have := HK1.out; omega⟩, ⟨bp BK104.out⟩, ⟨bp BK105.out⟩, ⟨bz HB.out⟩⟩
    replace H := ine c8 H
    obtain ⟨H, c8b0, c8b1⟩ := H
    (first | rw [c8b0] | (simp only [i64_w, i32_w]; rw [c8b0]) | skip)
    simp only [Option.some.injEq, Prod.mk.injEq] at H
    obtain ⟨rfl, rfl⟩ := H
    have hnb11 := NB104_105.out
    have hnc11 := NB105_104.out
    obtain ⟨Z12_0, Z12_1, F12_0, F12_1⟩ := cz2 BK104.out
    obtain ⟨Z13_0, Z13_1, F13_0, F13_1⟩ := cz2 BK105.out
    go_wp2
    refine bodyPost_ret (results_cell_row rfl _ _ gb105 77 #[.int .u64 x105000_1, .int .i64 x105001_1] (0, 0) _ rfl (bp BK105.out) Tryz.underlying77 rfl (by kernel_rfl)) rfl ?_
    exact ⟨az, bz HB.out⟩
   rw [if_neg c4] at H
   have c4b0 : decide (0 < x105001_1) = false := decide_eq_false c4
   clear c4
   simp only [Option.some.injEq, Prod.mk.injEq] at H
   obtain ⟨rfl, rfl⟩ := H
   have hnb14 := NB104_105.out
   have hnc14 := NB105_104.out
   obtain ⟨Z15_0, Z15_1, F15_0, F15_1⟩ := cz2 BK104.out
   obtain ⟨Z16_0, Z16_1, F16_0, F16_1⟩ := cz2 BK105.out
   go_wp2
   refine bodyPost_ret (results_cell_row rfl _ _ gb105 77 #[.int .u64 x105000_1, .int .i64 x105001_1] (0, 0) _ rfl (bp BK105.out) Tryz.underlying77 rfl (by kernel_rfl)) rfl ?_
   exact ⟨az, bz HB.out⟩
end Go.Proofs.YtgkemhgihbfmmaaGreatDoor.PA
end
section
namespace Go.Proofs.YtgkemhgihbfmmaaGreatDoor.PA
open Go.RowKit Go.Proofs.YtgkemhgihbfmmaaGreatDoorW.PrintWords Go.Proofs.YtgkemhgihbfmmaaGreatDoorW.PrintLast Go.Proofs.YtgkemhgihbfmmaaGreatDoorW.PrintMore
attribute [local go_sem] max2_int min2_int max_two min_two max_three min_three max_four min_four isSome_set str_gtr
set_option linter.unusedVariables false
set_option linter.unusedSimpArgs false
def deci_form_dec.f (k : Nat) (a0_0 a0_1 : Int) (a1 : Bool) : Option (Int × Int × Int) := (deci_form_short.f k a0_0 a0_1).bind fun bt108 => (if bt108.1 > 999999999999 then (some (0, 0, 3)) else (if a1 = true then (some (wrap64 (-(wrap64 (bt108.1))), bt108.2, 0)) else (some (wrap64 (bt108.1), bt108.2, 0))))
theorem deci_form_dec.mono : ∀ a0 a1 a2 k, LeO (deci_form_dec.f k a0 a1 a2) (deci_form_dec.f (k + 1) a0 a1 a2) := by
 intro a0 a1 a2 k
 unfold deci_form_dec.f
 have q0 := @deci_form_short.mono; exact lmo
set_option maxHeartbeats 8000000 in
set_option maxRecDepth 100000 in
theorem deci_form_dec.calls (k : Nat) (a0_0 a0_1 : Int) (a1 : Bool) (r1 r2 r3 : Int) (w : World) (h : deci_form_dec.f k a0_0 a0_1 a1 = some (r1, r2, r3)) :
  Calls Tryz.prog 45 #[.agg #[.int .u64 a0_0, .int .i64 a0_1], .bool a1] w fun e w' => e = .returned (.tuple #[.agg #[.int .i64 r1, .int .i64 r2], .int .i64 r3]) ∧ Below w.heap.size w w' := by
 have hu77 := Tryz.underlying77
 have hu23 := Tryz.underlying23
 have HB := am (Below.refl w.heap.size w)
 have H : ((deci_form_short.f k a0_0 a0_1).bind fun bt108 => (if bt108.1 > 999999999999 then (some (0, 0, 3)) else (if a1 = true then (some (wrap64 (-(wrap64 (bt108.1))), bt108.2, 0)) else (some (wrap64 (bt108.1), bt108.2, 0))))) = some (r1, r2, r3) := h
 clear h
 replace H := obe2 H
 obtain ⟨t108, t109, A3, H⟩ := H
 have HC4 := am H
 clear H
 go_enter Tryz.func45, Tryz.ntmps45
 go_upto_if 11 with (first | ((with_reducible refine gate_dst (N := 2) rfl ?_); refine bev (#[.int .u64 a0_0, .int .i64 a0_1]) 77 ?_; intro gb106 hg w5 hbox hb; have BK106 := am (hbox); have GW106 := gs hg HB; have GE106 := GW106; replace HB := sb HB hb; clear hb hbox hg) | ((with_reducible refine gate_dst (N := 4) rfl ?_); refine bev (#[.int .i64 0, .int .i64 0]) 23 ?_; intro gb107 hg w6 hbox hb; have BK107 := am (hbox); have GW107 := gs hg HB; have GE107 := GW107; replace HB := sb HB hb; have NB106_107 := na hg BK106; have NB107_106 := nb hg BK106; replace BK106 := kb BK106 hb; clear hb hbox hg; have hnb7 := NB106_107.out; have hnc7 := NB107_106.out; obtain ⟨Z8_0, Z8_1, F8_0, F8_1⟩ := cz2 BK106.out) | ((with_reducible refine gate_callee (f := 84) rfl ?_); refine gl_ (some 8) Tryz.func84 (by kernel_rfl) #[.agg #[.int .u64 a0_0, .int .i64 a0_1]] rfl ?_; (with_reducible refine (deci_form_short.calls k a0_0 a0_1 t108 t109 _ A3.out).mono ?_); rintro e w9 ⟨rfl, hb⟩; refine ⟨_, rfl, ?_⟩; replace BK106 := kb BK106 hb; replace BK107 := kb BK107 hb; replace HB := sb HB hb; clear hb; obtain ⟨Z10_0, Z10_1, F10_0, F10_1⟩ := cz2 BK106.out))
 (try simp only [Act.put, List.setIfInBounds_toArray, List.set_cons_zero, List.set_cons_succ])
 have H := HC4.out
 clear HC4
 clear Z8_0 Z8_1 F8_0 F8_1 Z10_0 Z10_1 F10_0 F10_1
 by_cases c11 : t108 > 999999999999
 ·rw [if_pos c11] at H
  have c11b0 : decide (999999999999 < t108) = true := decide_eq_true c11
  clear c11
  (first | rw [c11b0] | (simp only [i64_w, i32_w]; rw [c11b0]) | skip)
  simp only [Option.some.injEq, Prod.mk.injEq] at H
  obtain ⟨rfl, rfl, rfl⟩ := H
  have hnb12 := NB107_106.out
  have hnc12 := NB106_107.out
  obtain ⟨Z13_0, Z13_1, F13_0, F13_1⟩ := cz2 BK107.out
  go_wp2
  refine bodyPost_ret (results_ct rfl _ _ gb107 23 #[.int .i64 0, .int .i64 0] (0, 0) _ rfl (bp BK107.out) Tryz.underlying23 rfl (by kernel_rfl)) rfl ?_
  exact ⟨az, bz HB.out⟩
 rw [if_neg c11] at H
 have c11b0 : decide (999999999999 < t108) = false := decide_eq_false c11
 clear c11
 (first | rw [c11b0] | (simp only [i64_w, i32_w]; rw [c11b0]) | skip)
 have HC14 := am H
 clear H
 have hnb15 := NB106_107.out
 have hnc15 := NB107_106.out
 obtain ⟨Z16_0, Z16_1, F16_0, F16_1⟩ := cz2 BK106.out
 go_upto_if 19 with (first | ((with_reducible refine gate_dst (N := 6) rfl ?_); refine bev (#[.int .i64 0, .int .i64 0]) 23 ?_; intro gb110 hg w17 hbox hb; have BK110 := am (hbox); have GW110 := gs hg HB; have GE110 := GW110; replace HB := sb HB hb; have NB106_110 := am ((by rw [hg]; exact Nat.ne_of_lt (blk_lt (g := gb106) (o := .cells #[.int .u64 t108, .int .i64 t109] 77 (0, 0)) (bp BK106.out)) : gb106 ≠ gb110)); have NB110_106 := am ((by rw [hg]; exact Nat.ne_of_gt (blk_lt (g := gb106) (o := .cells #[.int .u64 t108, .int .i64 t109] 77 (0, 0)) (bp BK106.out)) : gb110 ≠ gb106)); replace BK106 := am (blk_below (g := gb106) (o := .cells #[.int .u64 t108, .int .i64 t109] 77 (0, 0)) (bp BK106.out) hb); have NB107_110 := am ((by rw [hg]; exact Nat.ne_of_lt (blk_lt (g := gb107) (o := .cells #[.int .i64 0, .int .i64 0] 23 (0, 0)) (bp BK107.out)) : gb107 ≠ gb110)); have NB110_107 := am ((by rw [hg]; exact Nat.ne_of_gt (blk_lt (g := gb107) (o := .cells #[.int .i64 0, .int .i64 0] 23 (0, 0)) (bp BK107.out)) : gb110 ≠ gb107)); replace BK107 := am (blk_below (g := gb107) (o := .cells #[.int .i64 0, .int .i64 0] 23 (0, 0)) (bp BK107.out) hb); clear hb hbox hg; have hnb18 := NB110_106.out; have hnc18 := NB106_110.out; have hnb19 := NB110_107.out; have hnc19 := NB107_110.out; obtain ⟨Z20_0, Z20_1, F20_0, F20_1⟩ := cz2 BK110.out))
 (try simp only [Act.put, List.setIfInBounds_toArray, List.set_cons_zero, List.set_cons_succ])
 have H := HC14.out
 clear HC14
 clear Z16_0 Z16_1 F16_0 F16_1 Z20_0 Z20_1 F20_0 F20_1
 by_cases c21 : a1 = true
 ·subst c21
  replace H := ift H
  simp only [Option.some.injEq, Prod.mk.injEq] at H
  obtain ⟨rfl, rfl, rfl⟩ := H
  have hnb22 := NB110_106.out
  have hnc22 := NB106_110.out
  have hnb23 := NB110_107.out
  have hnc23 := NB107_110.out
  obtain ⟨Z24_0, Z24_1, F24_0, F24_1⟩ := cz2 BK110.out
  have hnb25 := NB107_106.out
  have hnc25 := NB106_107.out
  obtain ⟨Z26_0, Z26_1, F26_0, F26_1⟩ := cz2 BK107.out
  go_wp2
  refine bodyPost_ret (results_ct rfl _ _ gb107 23 #[.int .i64 (wrap64 (-(wrap64 (t108)))), .int .i64 t109] (0, 0) _ rfl (bp BK107.out) Tryz.underlying23 rfl (by kernel_rfl)) rfl ?_
  exact ⟨az, bz HB.out⟩
 replace c21 := Bool.eq_false_iff.mpr c21
 subst c21
 replace H := iff_ H
 simp only [Option.some.injEq, Prod.mk.injEq] at H
 obtain ⟨rfl, rfl, rfl⟩ := H
 have hnb27 := NB110_106.out
 have hnc27 := NB106_110.out
 have hnb28 := NB110_107.out
 have hnc28 := NB107_110.out
 obtain ⟨Z29_0, Z29_1, F29_0, F29_1⟩ := cz2 BK110.out
 have hnb30 := NB107_106.out
 have hnc30 := NB106_107.out
 obtain ⟨Z31_0, Z31_1, F31_0, F31_1⟩ := cz2 BK107.out
 go_wp2
 refine bodyPost_ret (results_ct rfl _ _ gb107 23 #[.int .i64 (wrap64 (t108)), .int .i64 t109] (0, 0) _ rfl (bp BK107.out) Tryz.underlying23 rfl (by kernel_rfl)) rfl ?_
 exact ⟨az, bz HB.out⟩
end Go.Proofs.YtgkemhgihbfmmaaGreatDoor.PA
end
section
namespace Go.Proofs.YtgkemhgihbfmmaaGreatDoor.PA
open Go.RowKit Go.Proofs.YtgkemhgihbfmmaaGreatDoorW.PrintWords Go.Proofs.YtgkemhgihbfmmaaGreatDoorW.PrintLast Go.Proofs.YtgkemhgihbfmmaaGreatDoorW.PrintMore
attribute [local go_sem] max2_int min2_int max_two min_two max_three min_three max_four min_four isSome_set str_gtr
set_option linter.unusedVariables false
set_option linter.unusedSimpArgs false
def stringslite_CutPrefix.f (a0 : ByteArray) (a1 : ByteArray) : Option (ByteArray × Bool) := (stringslite_HasPrefix.f a0 a1).bind fun t111 => (if t111 = true then (if 0 ≤ (a1.size : Int) then (if (a1.size : Int) ≤ (a0.size : Int) then (some (a0.extract ((a1.size : Int) : Int).toNat a0.size, true)) else (none)) else (none)) else (some (a0, false)))
set_option maxHeartbeats 8000000 in
set_option maxRecDepth 100000 in
theorem stringslite_CutPrefix.calls (a0 : ByteArray) (a1 : ByteArray) (r1 : ByteArray) (r2 : Bool) (w : World) (h : stringslite_CutPrefix.f a0 a1 = some (r1, r2)) :
  Calls Tryz.prog 121 #[.string a0, .string a1] w fun e w' => e = .returned (.tuple #[.string r1, .bool r2]) ∧ Drawn0 w w' := by
 have H : ((stringslite_HasPrefix.f a0 a1).bind fun t111 => (if t111 = true then (if 0 ≤ (a1.size : Int) then (if (a1.size : Int) ≤ (a0.size : Int) then (some (a0.extract ((a1.size : Int) : Int).toNat a0.size, true)) else (none)) else (none)) else (some (a0, false)))) = some (r1, r2) := h
 clear h
 replace H := obe H
 obtain ⟨t111, A3, H⟩ := H
 have HC4 := am H
 clear H
 go_enter Tryz.func121, Tryz.ntmps121
 go_upto_if 9 with (first | ((with_reducible refine gate_callee (f := 168) rfl ?_); refine gl_ (some 8) Tryz.func168 (by kernel_rfl) #[.string a0, .string a1] rfl ?_; (with_reducible refine (stringslite_HasPrefix.calls a0 a1 t111 _ A3.out).mono ?_); rintro e w' ⟨rfl, ⟨nd, rfl⟩⟩; refine ⟨_, rfl, ?_⟩))
 (try simp only [Act.put, List.setIfInBounds_toArray, List.set_cons_zero, List.set_cons_succ])
 have H := HC4.out
 clear HC4
 by_cases c5 : t111 = true
 ·subst c5
  replace H := ift H
  by_cases c6 : 0 ≤ (a1.size : Int)
  ·rw [if_pos c6] at H
   have c6b0 := eq_true c6
   have c6b1 : decide (0 ≤ (a1.size : Int)) = true := decide_eq_true c6
   clear c6
   by_cases c7 : (a1.size : Int) ≤ (a0.size : Int)
   ·rw [if_pos c7] at H
    have c7b0 := eq_true c7
    have c7b1 : decide ((a1.size : Int) ≤ (a0.size : Int)) = true := decide_eq_true c7
    clear c7
    simp only [Option.some.injEq, Prod.mk.injEq] at H
    obtain ⟨rfl, rfl⟩ := H
    go_wp2
    go_ret2
    exact ⟨sz, dz⟩
   rw [if_neg c7] at H
   exact absurd H (by simp)
  rw [if_neg c6] at H
  exact absurd H (by simp)
 replace c5 := Bool.eq_false_iff.mpr c5
 subst c5
 replace H := iff_ H
 simp only [Option.some.injEq, Prod.mk.injEq] at H
 obtain ⟨rfl, rfl⟩ := H
 go_wp2
 go_ret2
 exact ⟨sz, dz⟩
end Go.Proofs.YtgkemhgihbfmmaaGreatDoor.PA
end
section
namespace Go.Proofs.YtgkemhgihbfmmaaGreatDoor.PA
open Go.RowKit Go.Proofs.YtgkemhgihbfmmaaGreatDoorW.PrintWords Go.Proofs.YtgkemhgihbfmmaaGreatDoorW.PrintLast Go.Proofs.YtgkemhgihbfmmaaGreatDoorW.PrintMore
attribute [local go_sem] max2_int min2_int max_two min_two max_three min_three max_four min_four isSome_set str_gtr
set_option linter.unusedVariables false
set_option linter.unusedSimpArgs false
def strings_CutPrefix.f (a0 : ByteArray) (a1 : ByteArray) : Option (ByteArray × Bool) := (stringslite_CutPrefix.f a0 a1).bind fun bt112 => (some (bt112.1, bt112.2))
set_option maxHeartbeats 8000000 in
set_option maxRecDepth 100000 in
theorem strings_CutPrefix.calls (a0 : ByteArray) (a1 : ByteArray) (r1 : ByteArray) (r2 : Bool) (w : World) (h : strings_CutPrefix.f a0 a1 = some (r1, r2)) :
  Calls Tryz.prog 87 #[.string a0, .string a1] w fun e w' => e = .returned (.tuple #[.string r1, .bool r2]) ∧ Drawn0 w w' := by
 have H : ((stringslite_CutPrefix.f a0 a1).bind fun bt112 => (some (bt112.1, bt112.2))) = some (r1, r2) := h
 clear h
 replace H := obe2 H
 obtain ⟨t112, t113, A3, H⟩ := H
 simp only [Option.some.injEq, Prod.mk.injEq] at H
 obtain ⟨rfl, rfl⟩ := H
 go_enter Tryz.func87, Tryz.ntmps87
 go_wp2_with (first | ((with_reducible refine gate_callee (f := 121) rfl ?_); refine gl_ (some 8) Tryz.func121 (by kernel_rfl) #[.string a0, .string a1] rfl ?_; (with_reducible refine (stringslite_CutPrefix.calls a0 a1 t112 t113 _ A3.out).mono ?_); rintro e w' ⟨rfl, ⟨nd, rfl⟩⟩; refine ⟨_, rfl, ?_⟩))
 go_ret2
 exact ⟨sz, dz⟩
end Go.Proofs.YtgkemhgihbfmmaaGreatDoor.PA
end
section
namespace Go.Proofs.YtgkemhgihbfmmaaGreatDoor.PA
open Go.RowKit Go.Proofs.YtgkemhgihbfmmaaGreatDoorW.PrintWords Go.Proofs.YtgkemhgihbfmmaaGreatDoorW.PrintLast Go.Proofs.YtgkemhgihbfmmaaGreatDoorW.PrintMore
attribute [local go_sem] max2_int min2_int max_two min_two max_three min_three max_four min_four isSome_set str_gtr
set_option linter.unusedVariables false
set_option linter.unusedSimpArgs false
end Go.Proofs.YtgkemhgihbfmmaaGreatDoor.PA
end
section
namespace Go.Proofs.YtgkemhgihbfmmaaGreatDoor.PA
open Go.RowKit Go.Proofs.YtgkemhgihbfmmaaGreatDoorW.PrintWords Go.Proofs.YtgkemhgihbfmmaaGreatDoorW.PrintLast Go.Proofs.YtgkemhgihbfmmaaGreatDoorW.PrintMore
attribute [local go_sem] max2_int min2_int max_two min_two max_three min_three max_four min_four isSome_set str_gtr
set_option linter.unusedVariables false
set_option linter.unusedSimpArgs false
end Go.Proofs.YtgkemhgihbfmmaaGreatDoor.PA
end
section
namespace Go.Proofs.YtgkemhgihbfmmaaGreatDoor.PA
open Go.RowKit Go.Proofs.YtgkemhgihbfmmaaGreatDoorW.PrintWords Go.Proofs.YtgkemhgihbfmmaaGreatDoorW.PrintLast Go.Proofs.YtgkemhgihbfmmaaGreatDoorW.PrintMore
attribute [local go_sem] max2_int min2_int max_two min_two max_three min_three max_four min_four isSome_set str_gtr
set_option linter.unusedVariables false
set_option linter.unusedSimpArgs false
def deci_digits.f (a0 : ByteArray) : Option (Bool) := if a0.toList = ([] : List UInt8) then (some false) else ((strings_Trim.f a0 (⟨#[48, 49, 50, 51, 52, 53, 54, 55, 56, 57]⟩ : ByteArray)).bind fun t114 => (some (t114.toList == ([] : List UInt8))))
set_option maxHeartbeats 8000000 in
set_option maxRecDepth 100000 in
theorem deci_digits.calls (a0 : ByteArray) (r : Bool) (w : World) (h : deci_digits.f a0 = some r) :
  Calls Tryz.prog 89 #[.string a0] w fun e w' => e = .returned (.bool r) ∧ Below w.heap.size w w' := by
 have HB := am (Below.refl w.heap.size w)
 have H : (if a0.toList = ([] : List UInt8) then (some false) else ((strings_Trim.f a0 (⟨#[48, 49, 50, 51, 52, 53, 54, 55, 56, 57]⟩ : ByteArray)).bind fun t114 => (some (t114.toList == ([] : List UInt8))))) = some r := h
 clear h
 by_cases c2 : a0.toList = ([] : List UInt8)
 ·rw [if_pos c2] at H
  have c2b0 : (a0.toList == ([] : List UInt8)) = true := beq_iff_eq.mpr c2
  (try (have c2be : (a0.toList.isEmpty) = true := by (try simp only [isEmpty_beq]); exact c2b0))
  have c2b1 : (a0.toList != ([] : List UInt8)) = false := bne_eq_false_iff_eq.mpr c2
  clear c2
  obtain rfl := Option.some.inj H
  go_enter Tryz.func89, Tryz.ntmps89
  go_wp2
  go_ret
  exact ⟨az, bz HB.out⟩
 rw [if_neg c2] at H
 have c2b0 : (a0.toList == ([] : List UInt8)) = false := beq_eq_false_iff_ne.mpr c2
 (try (have c2be : (a0.toList.isEmpty) = false := by (try simp only [isEmpty_beq]); exact c2b0))
 have c2b1 : (a0.toList != ([] : List UInt8)) = true := bne_iff_ne.mpr c2
 replace H := obe H
 obtain ⟨t114, A3, H⟩ := H
 obtain rfl := Option.some.inj H
 go_enter Tryz.func89, Tryz.ntmps89
 go_wp2_with (first | (go_at_call 123; (with_reducible refine (strings_Trim.calls a0 (⟨#[48, 49, 50, 51, 52, 53, 54, 55, 56, 57]⟩ : ByteArray) t114 _ A3.out).mono ?_); rintro e w4 ⟨rfl, hb⟩; replace HB := sb HB hb; clear hb))
 go_ret
 exact ⟨az, bz HB.out⟩
end Go.Proofs.YtgkemhgihbfmmaaGreatDoor.PA
end
section
namespace Go.Proofs.YtgkemhgihbfmmaaGreatDoor.PA
open Go.RowKit Go.Proofs.YtgkemhgihbfmmaaGreatDoorW.PrintWords Go.Proofs.YtgkemhgihbfmmaaGreatDoorW.PrintLast Go.Proofs.YtgkemhgihbfmmaaGreatDoorW.PrintMore
attribute [local go_sem] max2_int min2_int max_two min_two max_three min_three max_four min_four isSome_set str_gtr
set_option linter.unusedVariables false
set_option linter.unusedSimpArgs false
end Go.Proofs.YtgkemhgihbfmmaaGreatDoor.PA
end
section
namespace Go.Proofs.YtgkemhgihbfmmaaGreatDoor.PA
open Go.RowKit Go.Proofs.YtgkemhgihbfmmaaGreatDoorW.PrintWords Go.Proofs.YtgkemhgihbfmmaaGreatDoorW.PrintLast Go.Proofs.YtgkemhgihbfmmaaGreatDoorW.PrintMore
attribute [local go_sem] max2_int min2_int max_two min_two max_three min_three max_four min_four isSome_set str_gtr
set_option linter.unusedVariables false
set_option linter.unusedSimpArgs false
end Go.Proofs.YtgkemhgihbfmmaaGreatDoor.PA
end
section
namespace Go.Proofs.YtgkemhgihbfmmaaGreatDoor.PA
open Go.RowKit Go.Proofs.YtgkemhgihbfmmaaGreatDoorW.PrintWords Go.Proofs.YtgkemhgihbfmmaaGreatDoorW.PrintLast Go.Proofs.YtgkemhgihbfmmaaGreatDoorW.PrintMore
attribute [local go_sem] max2_int min2_int max_two min_two max_three min_three max_four min_four isSome_set str_gtr
set_option linter.unusedVariables false
set_option linter.unusedSimpArgs false
mutual
def deci_Parse.j0 : Nat → Bool → ByteArray → ByteArray → Bool → Option (Int × Int × Int)
 | 0, _, _, _, _ => none
 | k + 1, x5, x6, x7, x42 => if x42 = true then (none) else ((strings_TrimRight.f x7 (⟨#[48]⟩ : ByteArray)).bind fun t123 => (if (t123.size : Int) > 6 then (deci_Parse.j1 k x5 x6 t123 true) else (deci_Parse.j1 k x5 x6 t123 (decide ((x6.size : Int) > 12)))))
def deci_Parse.j1 : Nat → Bool → ByteArray → ByteArray → Bool → Option (Int × Int × Int)
 | 0, _, _, _, _ => none
 | k + 1, x5, x6, x7, x53 => if x53 = true then (none) else (if x6.size + x7.size ≤ 9223372036854775807 then ((strconv_ParseUint.f (x6 ++ x7) 10 64).bind fun bt124 => ((deci_form_dec.f k bt124.1 (x7.size : Int) x5).bind fun bt126 => (some (bt126.1, bt126.2.1, bt126.2.2)))) else (none))
end
def deci_Parse.f (k : Nat) (a0 : ByteArray) : Option (Int × Int × Int) := (strings_CutPrefix.f a0 (⟨#[45]⟩ : ByteArray)).bind fun bt116 => ((strings_Cut.f bt116.1 (⟨#[46]⟩ : ByteArray)).bind fun bt118 => ((deci_digits.f bt118.1).bind fun t121 => (if t121 = true then (if bt118.2.2 = true then ((deci_digits.f bt118.2.1).bind fun t122 => (if t122 = true then (if (bt118.1.size : Int) > 1 then (if 0 < (bt118.1.size : Int) then (deci_Parse.j0 k bt116.2 bt118.1 bt118.2.1 ((bt bt118.1 0) == 48)) else (none)) else (deci_Parse.j0 k bt116.2 bt118.1 bt118.2.1 false)) else (deci_Parse.j0 k bt116.2 bt118.1 bt118.2.1 true))) else (if (bt118.1.size : Int) > 1 then (if 0 < (bt118.1.size : Int) then (deci_Parse.j0 k bt116.2 bt118.1 bt118.2.1 ((bt bt118.1 0) == 48)) else (none)) else (deci_Parse.j0 k bt116.2 bt118.1 bt118.2.1 false))) else (deci_Parse.j0 k bt116.2 bt118.1 bt118.2.1 true))))
theorem deci_Parse.mono_l : ∀ k, (∀ y0 y1 y2 y3, LeO (deci_Parse.j0 k y0 y1 y2 y3) (deci_Parse.j0 (k + 1) y0 y1 y2 y3)) ∧ (∀ y0 y1 y2 y3, LeO (deci_Parse.j1 k y0 y1 y2 y3) (deci_Parse.j1 (k + 1) y0 y1 y2 y3))
 | 0 => ⟨fun _ _ _ _ r h => by simp [deci_Parse.j0] at h, fun _ _ _ _ r h => by simp [deci_Parse.j1] at h⟩
 | k + 1 => by
  obtain ⟨ih0, ih1⟩ := deci_Parse.mono_l k
  refine ⟨?_, ?_⟩
  ·intro y0 y1 y2 y3
   unfold deci_Parse.j0
   have q0 := @deci_form_dec.mono; exact lmo
  intro y0 y1 y2 y3
  unfold deci_Parse.j1
  have q0 := @deci_form_dec.mono; exact lmo
theorem deci_Parse.mono : ∀ a0 k, LeO (deci_Parse.f k a0) (deci_Parse.f (k + 1) a0) := by
 intro a0 k
 obtain ⟨ih0, ih1⟩ := deci_Parse.mono_l k
 unfold deci_Parse.f
 have q0 := @deci_form_dec.mono; exact lmo
set_option maxHeartbeats 8000000 in
set_option maxRecDepth 100000 in
theorem deci_Parse.calls (k : Nat) (a0 : ByteArray) (r1 r2 r3 : Int) (w : World) (h : deci_Parse.f k a0 = some (r1, r2, r3)) :
  Calls Tryz.prog 51 #[.string a0] w fun e w' => e = .returned (.tuple #[.agg #[.int .i64 r1, .int .i64 r2], .int .i64 r3]) ∧ Below w.heap.size w w' := by
 have hu23 := Tryz.underlying23
 have hu77 := Tryz.underlying77
 have HB := am (Below.refl w.heap.size w)
 have H : ((strings_CutPrefix.f a0 (⟨#[45]⟩ : ByteArray)).bind fun bt116 => ((strings_Cut.f bt116.1 (⟨#[46]⟩ : ByteArray)).bind fun bt118 => ((deci_digits.f bt118.1).bind fun t121 => (if t121 = true then (if bt118.2.2 = true then ((deci_digits.f bt118.2.1).bind fun t122 => (if t122 = true then (if (bt118.1.size : Int) > 1 then (if 0 < (bt118.1.size : Int) then (deci_Parse.j0 k bt116.2 bt118.1 bt118.2.1 ((bt bt118.1 0) == 48)) else (none)) else (deci_Parse.j0 k bt116.2 bt118.1 bt118.2.1 false)) else (deci_Parse.j0 k bt116.2 bt118.1 bt118.2.1 true))) else (if (bt118.1.size : Int) > 1 then (if 0 < (bt118.1.size : Int) then (deci_Parse.j0 k bt116.2 bt118.1 bt118.2.1 ((bt bt118.1 0) == 48)) else (none)) else (deci_Parse.j0 k bt116.2 bt118.1 bt118.2.1 false))) else (deci_Parse.j0 k bt116.2 bt118.1 bt118.2.1 true))))) = some (r1, r2, r3) := h
 clear h
 replace H := obe2 H
 obtain ⟨t116, t117, A2, H⟩ := H
 replace H := obe3 H
 obtain ⟨t118, t119, t120, A3, H⟩ := H
 have HC4 := am H
 clear H
 go_enter Tryz.func51, Tryz.ntmps51
 go_upto_region 3 with (first | ((with_reducible refine gate_dst (N := 2) rfl ?_); (try (refine gate_guard (by rfl) ?_; dsimp only)); refine bev (#[.int .i64 0, .int .i64 0]) 23 ?_; intro gb115 hg w5 hbox hb; have BK115 := am (hbox); have GW115 := gs hg HB; have GE115 := GW115; replace HB := sb HB hb; clear hb hbox hg) | ((with_reducible refine gate_callee (f := 87) rfl ?_); refine gl_ (some 13) Tryz.func87 (by kernel_rfl) #[.string a0, .string (⟨#[45]⟩ : ByteArray)] rfl ?_; (with_reducible refine (strings_CutPrefix.calls a0 (⟨#[45]⟩ : ByteArray) t116 t117 _ A2.out).mono ?_); rintro e w' ⟨rfl, ⟨nd, rfl⟩⟩; refine ⟨_, rfl, ?_⟩) | ((with_reducible refine gate_callee (f := 88) rfl ?_); refine gl_ (some 18) Tryz.func88 (by kernel_rfl) #[.string t116, .string (⟨#[46]⟩ : ByteArray)] rfl ?_; (with_reducible refine (strings_Cut.calls t116 (⟨#[46]⟩ : ByteArray) t118 t119 t120 _ A3.out).mono ?_); rintro e w' ⟨rfl, ⟨nd, rfl⟩⟩; refine ⟨_, rfl, ?_⟩))
 (try simp only [Act.put, List.setIfInBounds_toArray, List.set_cons_zero, List.set_cons_succ])
 go_cut [42] (fun v42 wc => ∃ (kq : Nat) (x42_3 : Bool), v42 = .bool x42_3 ∧ Aside0 (deci_Parse.j0 kq t117 t118 t119 x42_3 = some (r1, r2, r3)) ∧ Aside0 (kq ≤ k) ∧ Aside0 (wc.heap[gb115]? = some (.cells #[.int .i64 0, .int .i64 0] 23 (0, 0))) ∧ Aside0 (Below w.heap.size w wc))
 case first =>
  have H := HC4.out
  clear HC4
  replace H := obe H
  obtain ⟨t121, A6, H⟩ := H
  by_cases c7 : t121 = true
  ·subst c7
   replace H := ift H
   by_cases c8 : t120 = true
   ·subst c8
    replace H := ift H
    replace H := obe H
    obtain ⟨t122, A9, H⟩ := H
    by_cases c10 : t122 = true
    ·subst c10
     replace H := ift H
     by_cases c11 : (t118.size : Int) > 1
     ·rw [if_pos c11] at H
      have c11b0 : decide (1 < (t118.size : Int)) = true := decide_eq_true c11
      have c11b1 : decide (1 < t118.size) = true := decide_eq_true (by omega)
      clear c11
      (first | rw [c11b0] | (simp only [i64_w, i32_w]; rw [c11b0]) | skip)
      by_cases c12 : 0 < (t118.size : Int)
      ·rw [if_pos c12] at H
       have c12b0 : decide (0 < (t118.size : Int)) = true := decide_eq_true c12
       have c12b1 : decide (0 < t118.size) = true := decide_eq_true (by omega)
       clear c12
       have H' := am H
       clear H
       go_wp2_with (first | ((with_reducible refine gate_callee (f := 89) rfl ?_); refine gl_ (some 23) Tryz.func89 (by kernel_rfl) #[.string t118] rfl ?_; (with_reducible refine (deci_digits.calls t118 true _ A6.out).mono ?_); rintro e w14 ⟨rfl, hb⟩; refine ⟨_, rfl, ?_⟩; replace BK115 := kb BK115 hb; replace HB := sb HB hb; clear hb) | (go_at_call 89; (with_reducible refine (deci_digits.calls t119 true _ A9.out).mono ?_); rintro e w15 ⟨rfl, hb⟩; replace BK115 := kb BK115 hb; replace HB := sb HB hb; clear hb; have p13 : 0 ≤ (0 : Int) := (by omega); have q13 : 0 < t118.size := (by have : (0 : Int) < (t118.size : Int) := of_decide_eq_true tz; omega); have hx13 : ∀ h : 0 < t118.size, ((t118[0]'h).toNat : Int) = bt t118 0 := bt_at t118 0; clear p13; have qi13 : (0 < (t118.size : Int)) = True := eq_true (of_decide_eq_true tz); replace q13 := eq_true q13))
       go_meet
       case rel => exact ⟨_, (((bt t118 0) == 48)), sz, H', ⟨oz⟩, ⟨bk BK115.out⟩, ⟨bz HB.out⟩⟩
      rw [if_neg c12] at H
      exact absurd H (by simp)
     rw [if_neg c11] at H
     have c11b0 : decide (1 < (t118.size : Int)) = false := decide_eq_false c11
     have c11b1 : decide (1 < t118.size) = false := decide_eq_false (by omega)
     clear c11
     (first | rw [c11b0] | (simp only [i64_w, i32_w]; rw [c11b0]) | skip)
     have H' := am H
     clear H
     go_wp2_with (first | ((with_reducible refine gate_callee (f := 89) rfl ?_); refine gl_ (some 23) Tryz.func89 (by kernel_rfl) #[.string t118] rfl ?_; (with_reducible refine (deci_digits.calls t118 true _ A6.out).mono ?_); rintro e w16 ⟨rfl, hb⟩; refine ⟨_, rfl, ?_⟩; replace BK115 := kb BK115 hb; replace HB := sb HB hb; clear hb) | (go_at_call 89; (with_reducible refine (deci_digits.calls t119 true _ A9.out).mono ?_); rintro e w17 ⟨rfl, hb⟩; replace BK115 := kb BK115 hb; replace HB := sb HB hb; clear hb))
     go_meet
     case rel => exact ⟨_, (false), sz, H', ⟨oz⟩, ⟨bk BK115.out⟩, ⟨bz HB.out⟩⟩
    replace c10 := Bool.eq_false_iff.mpr c10
    subst c10
    replace H := iff_ H
    have H' := am H
    clear H
    go_wp2_with (first | ((with_reducible refine gate_callee (f := 89) rfl ?_); refine gl_ (some 23) Tryz.func89 (by kernel_rfl) #[.string t118] rfl ?_; (with_reducible refine (deci_digits.calls t118 true _ A6.out).mono ?_); rintro e w18 ⟨rfl, hb⟩; refine ⟨_, rfl, ?_⟩; replace BK115 := kb BK115 hb; replace HB := sb HB hb; clear hb) | (go_at_call 89; (with_reducible refine (deci_digits.calls t119 false _ A9.out).mono ?_); rintro e w19 ⟨rfl, hb⟩; replace BK115 := kb BK115 hb; replace HB := sb HB hb; clear hb))
    go_meet
    case rel => exact ⟨_, (true), sz, H', ⟨oz⟩, ⟨bk BK115.out⟩, ⟨bz HB.out⟩⟩
   replace c8 := Bool.eq_false_iff.mpr c8
   subst c8
   replace H := iff_ H
   by_cases c20 : (t118.size : Int) > 1
   ·rw [if_pos c20] at H
    have c20b0 : decide (1 < (t118.size : Int)) = true := decide_eq_true c20
    have c20b1 : decide (1 < t118.size) = true := decide_eq_true (by omega)
    clear c20
    by_cases c21 : 0 < (t118.size : Int)
    ·rw [if_pos c21] at H
     have c21b0 : decide (0 < (t118.size : Int)) = true := decide_eq_true c21
     have c21b1 : decide (0 < t118.size) = true := decide_eq_true (by omega)
     clear c21
     have H' := am H
     clear H
     go_wp2_with (first | ((with_reducible refine gate_callee (f := 89) rfl ?_); refine gl_ (some 23) Tryz.func89 (by kernel_rfl) #[.string t118] rfl ?_; (with_reducible refine (deci_digits.calls t118 true _ A6.out).mono ?_); rintro e w23 ⟨rfl, hb⟩; refine ⟨_, rfl, ?_⟩; replace BK115 := kb BK115 hb; replace HB := sb HB hb; clear hb; have p22 : 0 ≤ (0 : Int) := (by omega); have q22 : 0 < t118.size := (by have : (0 : Int) < (t118.size : Int) := of_decide_eq_true tz; omega); have hx22 : ∀ h : 0 < t118.size, ((t118[0]'h).toNat : Int) = bt t118 0 := bt_at t118 0; clear p22; have qi22 : (0 < (t118.size : Int)) = True := eq_true (of_decide_eq_true tz); replace q22 := eq_true q22))
     go_meet
     case rel => exact ⟨_, (((bt t118 0) == 48)), sz, H', ⟨oz⟩, ⟨bk BK115.out⟩, ⟨bz HB.out⟩⟩
    rw [if_neg c21] at H
    exact absurd H (by simp)
   rw [if_neg c20] at H
   have c20b0 : decide (1 < (t118.size : Int)) = false := decide_eq_false c20
   have c20b1 : decide (1 < t118.size) = false := decide_eq_false (by omega)
   clear c20
   have H' := am H
   clear H
   go_wp2_with (first | ((with_reducible refine gate_callee (f := 89) rfl ?_); refine gl_ (some 23) Tryz.func89 (by kernel_rfl) #[.string t118] rfl ?_; (with_reducible refine (deci_digits.calls t118 true _ A6.out).mono ?_); rintro e w24 ⟨rfl, hb⟩; refine ⟨_, rfl, ?_⟩; replace BK115 := kb BK115 hb; replace HB := sb HB hb; clear hb))
   go_meet
   case rel => exact ⟨_, (false), sz, H', ⟨oz⟩, ⟨bk BK115.out⟩, ⟨bz HB.out⟩⟩
  replace c7 := Bool.eq_false_iff.mpr c7
  subst c7
  replace H := iff_ H
  have H' := am H
  clear H
  go_wp2_with (first | ((with_reducible refine gate_callee (f := 89) rfl ?_); refine gl_ (some 23) Tryz.func89 (by kernel_rfl) #[.string t118] rfl ?_; (with_reducible refine (deci_digits.calls t118 false _ A6.out).mono ?_); rintro e w25 ⟨rfl, hb⟩; refine ⟨_, rfl, ?_⟩; replace BK115 := kb BK115 hb; replace HB := sb HB hb; clear hb))
  go_meet
  case rel => exact ⟨_, (true), sz, H', ⟨oz⟩, ⟨bk BK115.out⟩, ⟨bz HB.out⟩⟩
 case rest =>
  clear HC4
  skip
  obtain ⟨kq, x42_3, rfl, HA, HJ3, BK115, HB⟩ := hcut
  cases kq with
  | zero => exact absurd HA.out (by simp [deci_Parse.j0])
  | succ kj3 =>
   have H := HA.out
   clear HA
   simp only [deci_Parse.j0] at H
   by_cases c26 : x42_3 = true
   ·subst c26
    replace H := ift H
    exact absurd H (by simp)
   replace c26 := Bool.eq_false_iff.mpr c26
   subst c26
   replace H := iff_ H
   replace H := obe H
   obtain ⟨t123, A27, H⟩ := H
   have HC28 := am H
   clear H
   go_upto_region 6 with (first | ((with_reducible refine gate_callee (f := 90) rfl ?_); refine gl_ (some 45) Tryz.func90 (by kernel_rfl) #[.string t119, .string (⟨#[48]⟩ : ByteArray)] rfl ?_; (with_reducible refine (strings_TrimRight.calls t119 (⟨#[48]⟩ : ByteArray) t123 _ A27.out).mono ?_); rintro e w29 ⟨rfl, hb⟩; refine ⟨_, rfl, ?_⟩; replace BK115 := kb BK115 hb; replace HB := sb HB hb; clear hb))
   (try simp only [Act.put, List.setIfInBounds_toArray, List.set_cons_zero, List.set_cons_succ])
   go_cut [53] (fun v53 wc => ∃ (kq : Nat) (x53_27 : Bool), v53 = .bool x53_27 ∧ Aside0 (deci_Parse.j1 kq t117 t118 t123 x53_27 = some (r1, r2, r3)) ∧ Aside0 (kq ≤ kj3) ∧ Aside0 (wc.heap[gb115]? = some (.cells #[.int .i64 0, .int .i64 0] 23 (0, 0))) ∧ Aside0 (Below w.heap.size w wc))
   case first =>
    have H := HC28.out
    clear HC28
    by_cases c30 : (t123.size : Int) > 6
    ·rw [if_pos c30] at H
     have c30b0 : decide (6 < (t123.size : Int)) = true := decide_eq_true c30
     have c30b1 : decide (6 < t123.size) = true := decide_eq_true (by omega)
     clear c30
     (first | rw [c30b0] | (simp only [i64_w, i32_w]; rw [c30b0]) | skip)
     have H' := am H
     clear H
     go_wp2
     go_meet
     case rel => exact ⟨_, (true), sz, H', ⟨oa HJ3⟩, ⟨bk BK115.out⟩, ⟨bz HB.out⟩⟩
    rw [if_neg c30] at H
    have c30b0 : decide (6 < (t123.size : Int)) = false := decide_eq_false c30
    have c30b1 : decide (6 < t123.size) = false := decide_eq_false (by omega)
    clear c30
    (first | rw [c30b0] | (simp only [i64_w, i32_w]; rw [c30b0]) | skip)
    have H' := am H
    clear H
    go_wp2
    go_meet
    case rel => exact ⟨_, (decide ((t118.size : Int) > 12)), sz, H', ⟨oa HJ3⟩, ⟨bk BK115.out⟩, ⟨bz HB.out⟩⟩
   case rest =>
    clear HC28
    try clear c7; try clear c8; try clear c10; try clear c11; try clear c11b0; try clear c11b1; try clear c12; try clear c12b0; try clear c12b1; try clear p13; try clear q13; try clear hx13; try clear qi13; try clear c20; try clear c20b0; try clear c20b1; try clear c21; try clear c21b0; try clear c21b1; try clear p22; try clear q22; try clear hx22; try clear qi22; try clear c26; try clear p13; try clear p22; try clear q13; try clear q22
    obtain ⟨kq, x53_27, rfl, HA, HJ27, BK115, HB⟩ := hcut
    cases kq with
    | zero => exact absurd HA.out (by simp [deci_Parse.j1])
    | succ kj27 =>
     have H := HA.out
     clear HA
     simp only [deci_Parse.j1] at H
     by_cases c31 : x53_27 = true
     ·subst c31
      replace H := ift H
      exact absurd H (by simp)
     replace c31 := Bool.eq_false_iff.mpr c31
     subst c31
     replace H := iff_ H
     by_cases c32 : t118.size + t123.size ≤ 9223372036854775807
     ·rw [if_pos c32] at H
      have c32b0 := eq_true c32
      have c32b1 : decide (t118.size + t123.size ≤ 9223372036854775807) = true := decide_eq_true c32
      try have c32b2 : (9223372036854775807 < t118.size + t123.size) = False := eq_false (Nat.not_lt.2 c32)
      replace H := obe2 H
      obtain ⟨t124, t125, A33, H⟩ := H
      replace H := obe3 H
      obtain ⟨t126, t127, t128, A34, H⟩ := H
      simp only [Option.some.injEq, Prod.mk.injEq] at H
      obtain ⟨rfl, rfl, rfl⟩ := H
      go_wp2_with (first | ((with_reducible refine gate_callee (f := 91) rfl ?_); refine gl_ (some 59) Tryz.func91 (by kernel_rfl) #[.string (t118 ++ t123), .int .i64 10, .int .i64 64] rfl ?_; (with_reducible refine (strconv_ParseUint.calls (t118 ++ t123) 10 64 t124 t125 _ A33.out).mono ?_); rintro e w35 ⟨rfl, hb⟩; refine ⟨_, rfl, ?_⟩; replace BK115 := kb BK115 hb; replace HB := sb HB hb; clear hb; (try simp only [errW_none, errW_some])) | ((with_reducible refine gate_callee (f := 45) rfl ?_); refine gl_ (some 67) Tryz.func45 (by kernel_rfl) #[.agg #[.int .u64 t124, .int .i64 (t123.size : Int)], .bool t117] rfl ?_; (with_reducible refine (deci_form_dec.calls kj27 t124 (t123.size : Int) t117 t126 t127 t128 _ A34.out).mono ?_); rintro e w36 ⟨rfl, hb⟩; refine ⟨_, rfl, ?_⟩; replace BK115 := kb BK115 hb; replace HB := sb HB hb; clear hb; obtain ⟨Z37_0, Z37_1, F37_0, F37_1⟩ := cz2 BK115.out))
      refine bodyPost_ret (results_ct rfl _ _ gb115 23 #[.int .i64 t126, .int .i64 t127] (0, 0) _ rfl (bp BK115.out) Tryz.underlying23 rfl (by kernel_rfl)) rfl ?_
      exact ⟨az, bz HB.out⟩
     rw [if_neg c32] at H
     exact absurd H (by simp)
end Go.Proofs.YtgkemhgihbfmmaaGreatDoor.PA
end
section
namespace Go.Proofs.YtgkemhgihbfmmaaGreatDoor.PA
open Go.RowKit Go.Proofs.YtgkemhgihbfmmaaGreatDoorW.PrintWords Go.Proofs.YtgkemhgihbfmmaaGreatDoorW.PrintLast Go.Proofs.YtgkemhgihbfmmaaGreatDoorW.PrintMore
attribute [local go_sem] max2_int min2_int max_two min_two max_three min_three max_four min_four isSome_set str_gtr
set_option linter.unusedVariables false
set_option linter.unusedSimpArgs false
end Go.Proofs.YtgkemhgihbfmmaaGreatDoor.PA
end
section
namespace Go.Proofs.YtgkemhgihbfmmaaGreatDoor.PA
open Go.RowKit Go.Proofs.YtgkemhgihbfmmaaGreatDoorW.PrintWords Go.Proofs.YtgkemhgihbfmmaaGreatDoorW.PrintLast Go.Proofs.YtgkemhgihbfmmaaGreatDoorW.PrintMore
attribute [local go_sem] max2_int min2_int max_two min_two max_three min_three max_four min_four isSome_set str_gtr
set_option linter.unusedVariables false
set_option linter.unusedSimpArgs false
def lex_number.j0 : Nat → ByteArray → Int → ByteArray → Bool → Option (Int × Int × ByteArray × Int × Int × Int × Int × Int)
 | 0, _, _, _, _ => none
 | k + 1, x0, x5, x6, x26 => if x26 = true then (if 1 ≤ (x6.size : Int) then ((lex_run.f (x6.extract 1 x6.size) (⟨#[48, 49, 50, 51, 52, 53, 54, 55, 56, 57]⟩ : ByteArray)).bind fun t132 => (if 0 ≤ (wrap64 (x5 + (wrap64 (1 + t132)))) then (if (wrap64 (x5 + (wrap64 (1 + t132)))) ≤ (x0.size : Int) then ((deci_Parse.f k (x0.extract 0 ((wrap64 (x5 + (wrap64 (1 + t132)))) : Int).toNat)).bind fun bt133 => (some (1, 0, (⟨#[]⟩ : ByteArray), bt133.1, bt133.2.1, 0, wrap64 (x5 + (wrap64 (1 + t132))), bt133.2.2))) else (none)) else (none))) else (none)) else (if 0 ≤ x5 then (if x5 ≤ (x0.size : Int) then ((deci_Parse.f k (x0.extract 0 (x5 : Int).toNat)).bind fun bt137 => (some (1, 0, (⟨#[]⟩ : ByteArray), bt137.1, bt137.2.1, 0, x5, bt137.2.2))) else (none)) else (none))
def lex_number.f (k : Nat) (a0 : ByteArray) : Option (Int × Int × ByteArray × Int × Int × Int × Int × Int) := (lex_run.f a0 (⟨#[48, 49, 50, 51, 52, 53, 54, 55, 56, 57]⟩ : ByteArray)).bind fun t130 => (if 0 ≤ t130 then (if t130 ≤ (a0.size : Int) then (if ((a0.extract (t130 : Int).toNat a0.size).size : Int) > 1 then (if 0 < ((a0.extract (t130 : Int).toNat a0.size).size : Int) then (if (bt (a0.extract (t130 : Int).toNat a0.size) 0) = 46 then (if 1 ≤ 2 then (if 2 ≤ ((a0.extract (t130 : Int).toNat a0.size).size : Int) then ((strings_Contains.f (⟨#[48, 49, 50, 51, 52, 53, 54, 55, 56, 57]⟩ : ByteArray) ((a0.extract (t130 : Int).toNat a0.size).extract 1 2)).bind fun t131 => (lex_number.j0 k a0 t130 (a0.extract (t130 : Int).toNat a0.size) t131)) else (none)) else (none)) else (lex_number.j0 k a0 t130 (a0.extract (t130 : Int).toNat a0.size) false)) else (none)) else (lex_number.j0 k a0 t130 (a0.extract (t130 : Int).toNat a0.size) false)) else (none)) else (none))
theorem lex_number.mono_l : ∀ k, (∀ y0 y1 y2 y3, LeO (lex_number.j0 k y0 y1 y2 y3) (lex_number.j0 (k + 1) y0 y1 y2 y3))
 | 0 => fun _ _ _ _ r h => by simp [lex_number.j0] at h
 | k + 1 => by
  have ih0 := lex_number.mono_l k
  ·intro y0 y1 y2 y3
   unfold lex_number.j0
   have q0 := @deci_Parse.mono; exact lmo
theorem lex_number.mono : ∀ a0 k, LeO (lex_number.f k a0) (lex_number.f (k + 1) a0) := by
 intro a0 k
 have ih0 := lex_number.mono_l k
 unfold lex_number.f
 have q0 := @deci_Parse.mono; exact lmo
set_option maxHeartbeats 8000000 in
set_option maxRecDepth 100000 in
theorem lex_number.calls (k : Nat) (a0 : ByteArray) (r1 r2 : Int) (r3 : ByteArray) (r4 r5 r6 r7 r8 : Int) (w : World) (h : lex_number.f k a0 = some (r1, r2, r3, r4, r5, r6, r7, r8)) :
  Calls Tryz.prog 146 #[.string a0] w fun e w' => e = .returned (.tuple #[.agg #[.int .i64 r1, .int .i64 r2, .string r3, .int .i64 r4, .int .i64 r5, .int .i64 r6], .int .i64 r7, .int .i64 r8]) ∧ Below w.heap.size w w' := by
 have hu136 := Tryz.underlying136
 have hu23 := Tryz.underlying23
 have HB := am (Below.refl w.heap.size w)
 have H : ((lex_run.f a0 (⟨#[48, 49, 50, 51, 52, 53, 54, 55, 56, 57]⟩ : ByteArray)).bind fun t130 => (if 0 ≤ t130 then (if t130 ≤ (a0.size : Int) then (if ((a0.extract (t130 : Int).toNat a0.size).size : Int) > 1 then (if 0 < ((a0.extract (t130 : Int).toNat a0.size).size : Int) then (if (bt (a0.extract (t130 : Int).toNat a0.size) 0) = 46 then (if 1 ≤ 2 then (if 2 ≤ ((a0.extract (t130 : Int).toNat a0.size).size : Int) then ((strings_Contains.f (⟨#[48, 49, 50, 51, 52, 53, 54, 55, 56, 57]⟩ : ByteArray) ((a0.extract (t130 : Int).toNat a0.size).extract 1 2)).bind fun t131 => (lex_number.j0 k a0 t130 (a0.extract (t130 : Int).toNat a0.size) t131)) else (none)) else (none)) else (lex_number.j0 k a0 t130 (a0.extract (t130 : Int).toNat a0.size) false)) else (none)) else (lex_number.j0 k a0 t130 (a0.extract (t130 : Int).toNat a0.size) false)) else (none)) else (none))) = some (r1, r2, r3, r4, r5, r6, r7, r8) := h
 clear h
 replace H := obe H
 obtain ⟨t130, A2, H⟩ := H
 by_cases c3 : 0 ≤ t130
 ·rw [if_pos c3] at H
  have c3b0 := eq_true c3
  have c3b1 : decide (0 ≤ t130) = true := decide_eq_true c3
  clear c3
  by_cases c4 : t130 ≤ (a0.size : Int)
  ·rw [if_pos c4] at H
   have c4b0 := eq_true c4
   have c4b1 : decide (t130 ≤ (a0.size : Int)) = true := decide_eq_true c4
   clear c4
   obtain ⟨R_, hR_⟩ : ∃ R_ : ByteArray, a0.extract (t130 : Int).toNat a0.size = R_ := ⟨_, rfl⟩
   simp only [hR_] at H
   have HC5 := am H
   clear H
   go_enter Tryz.func146, Tryz.ntmps146
   go_upto_region 3 with (first | ((with_reducible refine gate_dst (N := 2) rfl ?_); refine bev (#[.int .i64 0, .int .i64 0, .string (⟨#[]⟩ : ByteArray), .int .i64 0, .int .i64 0, .int .i64 0]) 136 ?_; intro gb129 hg w6 hbox hb; have BK129 := am (hbox); have GW129 := gs hg HB; have GE129 := GW129; replace HB := sb HB hb; clear hb hbox hg) | ((with_reducible refine gate_callee (f := 105) rfl ?_); refine gl_ (some 10) Tryz.func105 (by kernel_rfl) #[.string a0, .string (⟨#[48, 49, 50, 51, 52, 53, 54, 55, 56, 57]⟩ : ByteArray)] rfl ?_; (with_reducible refine (lex_run.calls a0 (⟨#[48, 49, 50, 51, 52, 53, 54, 55, 56, 57]⟩ : ByteArray) t130 _ A2.out).mono ?_); rintro e w7 ⟨rfl, hb⟩; refine ⟨_, rfl, ?_⟩; replace BK129 := kb BK129 hb; replace HB := sb HB hb; clear hb))
   (try simp only [Act.put, List.setIfInBounds_toArray, List.set_cons_zero, List.set_cons_succ])
   go_cut [26] (fun v26 wc => ∃ (kq : Nat) (x26_4 : Bool), v26 = .bool x26_4 ∧ Aside0 (lex_number.j0 kq a0 t130 R_ x26_4 = some (r1, r2, r3, r4, r5, r6, r7, r8)) ∧ Aside0 (kq ≤ k) ∧ Aside0 (wc.heap[gb129]? = some (.cells #[.int .i64 0, .int .i64 0, .string (⟨#[]⟩ : ByteArray), .int .i64 0, .int .i64 0, .int .i64 0] 136 (0, 0))) ∧ Aside0 (Below w.heap.size w wc))
   case first =>
    have H := HC5.out
    clear HC5
    by_cases c8 : (R_.size : Int) > 1
    ·rw [if_pos c8] at H
     have c8b0 : decide (1 < (R_.size : Int)) = true := decide_eq_true c8
     have c8b1 : decide (1 < R_.size) = true := decide_eq_true (by omega)
     clear c8
     (first | rw [c8b0] | (simp only [i64_w, i32_w]; rw [c8b0]) | skip)
     by_cases c9 : 0 < (R_.size : Int)
     ·rw [if_pos c9] at H
      have c9b0 : decide (0 < (R_.size : Int)) = true := decide_eq_true c9
      have c9b1 : decide (0 < R_.size) = true := decide_eq_true (by omega)
      clear c9
      by_cases c11 : (bt R_ 0) = 46
      ·replace H := ipe c11 H
       obtain ⟨H, c11b0, c11b1⟩ := H
       clear c11
       by_cases c12 : 1 ≤ 2
       ·rw [if_pos c12] at H
        have c12b0 := eq_true c12
        have c12b1 : decide (1 ≤ 2) = true := decide_eq_true c12
        clear c12
        by_cases c13 : 2 ≤ (R_.size : Int)
        ·rw [if_pos c13] at H
         have c13b0 := eq_true c13
         have c13b1 : decide (2 ≤ (R_.size : Int)) = true := decide_eq_true c13
         clear c13
         replace H := obe H
         obtain ⟨t131, A14, H⟩ := H
         have H' := am H
         clear H
         have p10 : 0 ≤ (0 : Int) := (by omega)
         have q10 : 0 < R_.size := (by have : (0 : Int) < (R_.size : Int) := of_decide_eq_true tz; omega)
         have hx10 : ∀ h : 0 < R_.size, ((R_[0]'h).toNat : Int) = bt R_ 0 := bt_at R_ 0
         clear p10
         have qi10 : (0 < (R_.size : Int)) = True := eq_true (of_decide_eq_true tz)
         replace q10 := eq_true q10
         go_wp2_with (first | (go_at_call 193; (with_reducible refine (strings_Contains.calls (⟨#[48, 49, 50, 51, 52, 53, 54, 55, 56, 57]⟩ : ByteArray) (R_.extract 1 2) t131 _ A14.out).mono ?_); rintro e w15 ⟨rfl, hb⟩; replace BK129 := kb BK129 hb; replace HB := sb HB hb; clear hb))
         go_meet
         case rel => exact ⟨_, (t131), sz, H', ⟨oz⟩, ⟨bk BK129.out⟩, ⟨bz HB.out⟩⟩
        rw [if_neg c13] at H
        exact absurd H (by simp)
       rw [if_neg c12] at H
       exact absurd H (by simp)
      replace H := ine c11 H
      obtain ⟨H, c11b0, c11b1⟩ := H
      have H' := am H
      clear H
      have p10 : 0 ≤ (0 : Int) := (by omega)
      have q10 : 0 < R_.size := (by have : (0 : Int) < (R_.size : Int) := of_decide_eq_true tz; omega)
      have hx10 : ∀ h : 0 < R_.size, ((R_[0]'h).toNat : Int) = bt R_ 0 := bt_at R_ 0
      clear p10
      have qi10 : (0 < (R_.size : Int)) = True := eq_true (of_decide_eq_true tz)
      replace q10 := eq_true q10
      go_wp2
      go_meet
      case rel => exact ⟨_, (false), sz, H', ⟨oz⟩, ⟨bk BK129.out⟩, ⟨bz HB.out⟩⟩
     rw [if_neg c9] at H
     exact absurd H (by simp)
    rw [if_neg c8] at H
    have c8b0 : decide (1 < (R_.size : Int)) = false := decide_eq_false c8
    have c8b1 : decide (1 < R_.size) = false := decide_eq_false (by omega)
    clear c8
    (first | rw [c8b0] | (simp only [i64_w, i32_w]; rw [c8b0]) | skip)
    have H' := am H
    clear H
    go_wp2
    go_meet
    case rel => exact ⟨_, (false), sz, H', ⟨oz⟩, ⟨bk BK129.out⟩, ⟨bz HB.out⟩⟩
   case rest =>
    clear HC5
    try clear c3; try clear c3b0; try clear c3b1; try clear c4; try clear c4b0; try clear c4b1
    obtain ⟨kq, x26_4, rfl, HA, HJ4, BK129, HB⟩ := hcut
    cases kq with
    | zero => exact absurd HA.out (by simp [lex_number.j0])
    | succ kj4 =>
     have H := HA.out
     clear HA
     simp only [lex_number.j0] at H
     by_cases c16 : x26_4 = true
     ·subst c16
      replace H := ift H
      by_cases c17 : 1 ≤ (R_.size : Int)
      ·rw [if_pos c17] at H
       have c17b0 := eq_true c17
       have c17b1 : decide (1 ≤ (R_.size : Int)) = true := decide_eq_true c17
       clear c17
       replace H := obe H
       obtain ⟨t132, A18, H⟩ := H
       obtain ⟨ji19, hji19⟩ : ∃ j_ : Int, (wrap64 (t130 + (wrap64 (1 + t132)))) = j_ := ⟨_, rfl⟩
       replace H : (if 0 ≤ (ji19) then (if (ji19) ≤ (a0.size : Int) then ((deci_Parse.f kj4 (a0.extract 0 ((ji19) : Int).toNat)).bind fun bt133 => (some (1, 0, (⟨#[]⟩ : ByteArray), bt133.1, bt133.2.1, 0, ji19, bt133.2.2))) else (none)) else (none)) = some (r1, r2, r3, r4, r5, r6, r7, r8) := by first | (rw [hji19] at H; exact H) | (simp only [hji19] at H ⊢; exact H)
       (try rw [hji19] at A18)
       have hji19w : (IntKind.i64.wrap (t130 + (wrap64 (1 + t132)))) = ji19 := (i64_w _).trans hji19
       by_cases c20 : 0 ≤ (ji19)
       ·rw [if_pos c20] at H
        have c20b0 := eq_true c20
        have c20b1 : decide (0 ≤ (ji19)) = true := decide_eq_true c20
        clear c20
        by_cases c21 : (ji19) ≤ (a0.size : Int)
        ·rw [if_pos c21] at H
         have c21b0 := eq_true c21
         have c21b1 : decide ((ji19) ≤ (a0.size : Int)) = true := decide_eq_true c21
         clear c21
         replace H := obe3 H
         obtain ⟨t133, t134, t135, A22, H⟩ := H
         simp only [Option.some.injEq, Prod.mk.injEq] at H
         obtain ⟨rfl, rfl, rfl, rfl, rfl, rfl, rfl, rfl⟩ := H
         go_wp2_with (first | ((with_reducible refine gate_callee (f := 105) rfl ?_); refine gl_ (some 30) Tryz.func105 (by kernel_rfl) #[.string (R_.extract 1 R_.size), .string (⟨#[48, 49, 50, 51, 52, 53, 54, 55, 56, 57]⟩ : ByteArray)] rfl ?_; (with_reducible refine (lex_run.calls (R_.extract 1 R_.size) (⟨#[48, 49, 50, 51, 52, 53, 54, 55, 56, 57]⟩ : ByteArray) t132 _ A18.out).mono ?_); rintro e w23 ⟨rfl, hb⟩; refine ⟨_, rfl, ?_⟩; replace BK129 := kb BK129 hb; replace HB := sb HB hb; clear hb) | ((with_reducible refine gate_callee (f := 51) rfl ?_); refine goesL_ (some 37) rfl rfl Tryz.func51 (by kernel_rfl) rfl #[.string (a0.extract 0 ((ji19) : Int).toNat)] rfl (by (try simp only [List.map_toArray, List.map_cons, List.map_nil]); first | done | (simp only [hji19]; rfl) | rfl | (simp only [List.length_drop, List.length_take]; rfl)) ?_; (with_reducible refine (deci_Parse.calls kj4 (a0.extract 0 ((ji19) : Int).toNat) t133 t134 t135 _ A22.out).mono ?_); rintro e w24 ⟨rfl, hb⟩; refine ⟨_, rfl, ?_⟩; replace BK129 := kb BK129 hb; replace HB := sb HB hb; clear hb) | ((with_reducible refine gate_dst (N := 7) rfl ?_); refine bev (#[.int .i64 0, .int .i64 0]) 23 ?_; intro gb136 hg w25 hbox hb; have BK136 := am (hbox); have GW136 := gs hg HB; have GE136 := GW136; replace HB := sb HB hb; have NB129_136 := na hg BK129; have NB136_129 := nb hg BK129; replace BK129 := kb BK129 hb; clear hb hbox hg; have hnb26 := NB136_129.out; have hnc26 := NB129_136.out; obtain ⟨Z27_0, Z27_1, F27_0, F27_1⟩ := cz2 BK136.out; obtain ⟨Z28_0, Z28_1, Z28_2, Z28_3, Z28_4, Z28_5, F28_0, F28_1, F28_2, F28_3, F28_4, F28_5⟩ := cz6 BK129.out))
         refine bodyPost_ret (results_ctt rfl _ _ gb129 136 #[.int .i64 1, .int .i64 0, .string (⟨#[]⟩ : ByteArray), .int .i64 t133, .int .i64 t134, .int .i64 0] (0, 0) _ rfl (bp BK129.out) Tryz.underlying136 rfl (by kernel_rfl)) rfl ?_
         exact ⟨by first | rfl | (simp [errW_none, errW_some] <;> rfl) | (simp only [← hji19]; first | rfl | (simp [errW_none, errW_some] <;> rfl)) | (simp [*, errW_none, errW_some] <;> rfl), bz HB.out⟩
        rw [if_neg c21] at H
        exact absurd H (by simp)
       rw [if_neg c20] at H
       exact absurd H (by simp)
      rw [if_neg c17] at H
      exact absurd H (by simp)
     replace c16 := Bool.eq_false_iff.mpr c16
     subst c16
     replace H := iff_ H
     by_cases c29 : 0 ≤ t130
     ·rw [if_pos c29] at H
      have c29b0 := eq_true c29
      have c29b1 : decide (0 ≤ t130) = true := decide_eq_true c29
      clear c29
      by_cases c30 : t130 ≤ (a0.size : Int)
      ·rw [if_pos c30] at H
       have c30b0 := eq_true c30
       have c30b1 : decide (t130 ≤ (a0.size : Int)) = true := decide_eq_true c30
       clear c30
       replace H := obe3 H
       obtain ⟨t137, t138, t139, A31, H⟩ := H
       simp only [Option.some.injEq, Prod.mk.injEq] at H
       obtain ⟨rfl, rfl, rfl, rfl, rfl, rfl, rfl, rfl⟩ := H
       go_wp2_with (first | ((with_reducible refine gate_callee (f := 51) rfl ?_); refine gl_ (some 37) Tryz.func51 (by kernel_rfl) #[.string (a0.extract 0 (t130 : Int).toNat)] rfl ?_; (with_reducible refine (deci_Parse.calls kj4 (a0.extract 0 (t130 : Int).toNat) t137 t138 t139 _ A31.out).mono ?_); rintro e w32 ⟨rfl, hb⟩; refine ⟨_, rfl, ?_⟩; replace BK129 := kb BK129 hb; replace HB := sb HB hb; clear hb) | ((with_reducible refine gate_dst (N := 7) rfl ?_); refine bev (#[.int .i64 0, .int .i64 0]) 23 ?_; intro gb140 hg w33 hbox hb; have BK140 := am (hbox); have GW140 := gs hg HB; have GE140 := GW140; replace HB := sb HB hb; have NB129_140 := na hg BK129; have NB140_129 := nb hg BK129; replace BK129 := kb BK129 hb; clear hb hbox hg; have hnb34 := NB140_129.out; have hnc34 := NB129_140.out; obtain ⟨Z35_0, Z35_1, F35_0, F35_1⟩ := cz2 BK140.out; obtain ⟨Z36_0, Z36_1, Z36_2, Z36_3, Z36_4, Z36_5, F36_0, F36_1, F36_2, F36_3, F36_4, F36_5⟩ := cz6 BK129.out))
       refine bodyPost_ret (results_ctt rfl _ _ gb129 136 #[.int .i64 1, .int .i64 0, .string (⟨#[]⟩ : ByteArray), .int .i64 t137, .int .i64 t138, .int .i64 0] (0, 0) _ rfl (bp BK129.out) Tryz.underlying136 rfl (by kernel_rfl)) rfl ?_
       exact ⟨az, bz HB.out⟩
      rw [if_neg c30] at H
      exact absurd H (by simp)
     rw [if_neg c29] at H
     exact absurd H (by simp)
  rw [if_neg c4] at H
  exact absurd H (by simp)
 rw [if_neg c3] at H
 exact absurd H (by simp)
end Go.Proofs.YtgkemhgihbfmmaaGreatDoor.PA
end
section
namespace Go.Proofs.YtgkemhgihbfmmaaGreatDoor.PA
open Go.RowKit Go.Proofs.YtgkemhgihbfmmaaGreatDoorW.PrintWords Go.Proofs.YtgkemhgihbfmmaaGreatDoorW.PrintLast Go.Proofs.YtgkemhgihbfmmaaGreatDoorW.PrintMore
attribute [local go_sem] max2_int min2_int max_two min_two max_three min_three max_four min_four isSome_set str_gtr
set_option linter.unusedVariables false
set_option linter.unusedSimpArgs false
def lex_signs.f  : Option (List ByteArray) := some (([(⟨#[46, 46]⟩ : ByteArray), (⟨#[33, 61]⟩ : ByteArray), (⟨#[60, 61]⟩ : ByteArray), (⟨#[62, 61]⟩ : ByteArray), (⟨#[43]⟩ : ByteArray), (⟨#[45]⟩ : ByteArray), (⟨#[42]⟩ : ByteArray), (⟨#[47]⟩ : ByteArray), (⟨#[61]⟩ : ByteArray), (⟨#[60]⟩ : ByteArray), (⟨#[62]⟩ : ByteArray), (⟨#[40]⟩ : ByteArray), (⟨#[41]⟩ : ByteArray), (⟨#[91]⟩ : ByteArray), (⟨#[93]⟩ : ByteArray), (⟨#[44]⟩ : ByteArray)] : List ByteArray))
set_option maxHeartbeats 8000000 in
set_option maxRecDepth 100000 in
theorem lex_signs.calls  (r : List ByteArray) (w : World) (h : lex_signs.f  = some r) :
  Calls Tryz.prog 149 #[] w fun e w' => ∃ v0_ : Value, e = .returned (v0_) ∧ Kd.R Kd.string 9 w' w.heap.size (fun _ => True) v0_ r ∧ Below w.heap.size w w' := by
 have HB := am (Below.refl w.heap.size w)
 have H : (some (([(⟨#[46, 46]⟩ : ByteArray), (⟨#[33, 61]⟩ : ByteArray), (⟨#[60, 61]⟩ : ByteArray), (⟨#[62, 61]⟩ : ByteArray), (⟨#[43]⟩ : ByteArray), (⟨#[45]⟩ : ByteArray), (⟨#[42]⟩ : ByteArray), (⟨#[47]⟩ : ByteArray), (⟨#[61]⟩ : ByteArray), (⟨#[60]⟩ : ByteArray), (⟨#[62]⟩ : ByteArray), (⟨#[40]⟩ : ByteArray), (⟨#[41]⟩ : ByteArray), (⟨#[91]⟩ : ByteArray), (⟨#[93]⟩ : ByteArray), (⟨#[44]⟩ : ByteArray)] : List ByteArray))) = some r := h
 clear h
 obtain ⟨y141, hy141⟩ : ∃ y_ : List ByteArray, y_ = (([(⟨#[46, 46]⟩ : ByteArray), (⟨#[33, 61]⟩ : ByteArray), (⟨#[60, 61]⟩ : ByteArray), (⟨#[62, 61]⟩ : ByteArray), (⟨#[43]⟩ : ByteArray), (⟨#[45]⟩ : ByteArray), (⟨#[42]⟩ : ByteArray), (⟨#[47]⟩ : ByteArray), (⟨#[61]⟩ : ByteArray), (⟨#[60]⟩ : ByteArray), (⟨#[62]⟩ : ByteArray), (⟨#[40]⟩ : ByteArray), (⟨#[41]⟩ : ByteArray), (⟨#[91]⟩ : ByteArray), (⟨#[93]⟩ : ByteArray), (⟨#[44]⟩ : ByteArray)] : List ByteArray)) := ⟨_, rfl⟩
 replace H : (some y141) = some r := by first | (rw [hy141]; with_reducible exact H) | (have H2_ := (Option.bind_some _ _).symm.trans H; rw [hy141]; with_reducible exact H2_) | (have H2_ := (Option.bind_some _ _).symm.trans H; with_reducible exact H2_) | with_reducible exact H | (rw [hy141]; exact H) | exact H
 have Ny141 := am hy141
 clear hy141
 obtain rfl := Option.some.inj H
 go_enter Tryz.func149, Tryz.ntmps149
 go_wp2_with (first | ((with_reducible refine gate_dst (N := 1) rfl ?_); refine rlit Kd.string 9 ([(⟨#[46, 46]⟩ : ByteArray), (⟨#[33, 61]⟩ : ByteArray), (⟨#[60, 61]⟩ : ByteArray), (⟨#[62, 61]⟩ : ByteArray), (⟨#[43]⟩ : ByteArray), (⟨#[45]⟩ : ByteArray), (⟨#[42]⟩ : ByteArray), (⟨#[47]⟩ : ByteArray), (⟨#[61]⟩ : ByteArray), (⟨#[60]⟩ : ByteArray), (⟨#[62]⟩ : ByteArray), (⟨#[40]⟩ : ByteArray), (⟨#[41]⟩ : ByteArray), (⟨#[91]⟩ : ByteArray), (⟨#[93]⟩ : ByteArray), (⟨#[44]⟩ : ByteArray)] : List ByteArray) [.string (⟨#[46, 46]⟩ : ByteArray), .string (⟨#[33, 61]⟩ : ByteArray), .string (⟨#[60, 61]⟩ : ByteArray), .string (⟨#[62, 61]⟩ : ByteArray), .string (⟨#[43]⟩ : ByteArray), .string (⟨#[45]⟩ : ByteArray), .string (⟨#[42]⟩ : ByteArray), .string (⟨#[47]⟩ : ByteArray), .string (⟨#[61]⟩ : ByteArray), .string (⟨#[60]⟩ : ByteArray), .string (⟨#[62]⟩ : ByteArray), .string (⟨#[40]⟩ : ByteArray), .string (⟨#[41]⟩ : ByteArray), .string (⟨#[91]⟩ : ByteArray), .string (⟨#[93]⟩ : ByteArray), .string (⟨#[44]⟩ : ByteArray)] ?_ (Below.refl _ _) (Nat.le_refl _) (r1s (r1s (r1s (r1s (r1s (r1s (r1s (r1s (r1s (r1s (r1s (r1s (r1s (r1s (r1s (r1s (Reps.none _ _))))))))))))))))); intro v142 w1 ho2 hb hg_ hnew_; clear hg_ hnew_; (first | rw [← Ny141.out] at ho2 | (simp only [Int.reduceToNat] at ho2; rw [← Ny141.out] at ho2)); have HO143 := am (Kd.R_lower ho2 (below_size (bz HB.out))); replace HB := sb HB hb; clear hb ho2))
 go_ret
 exact ⟨_, az, rr HO143.out, bz HB.out⟩
end Go.Proofs.YtgkemhgihbfmmaaGreatDoor.PA
end
section
namespace Go.Proofs.YtgkemhgihbfmmaaGreatDoor.PA
open Go.RowKit Go.Proofs.YtgkemhgihbfmmaaGreatDoorW.PrintWords Go.Proofs.YtgkemhgihbfmmaaGreatDoorW.PrintLast Go.Proofs.YtgkemhgihbfmmaaGreatDoorW.PrintMore
attribute [local go_sem] max2_int min2_int max_two min_two max_three min_three max_four min_four isSome_set str_gtr
set_option linter.unusedVariables false
set_option linter.unusedSimpArgs false
mutual
def lex_next.j0 : Nat → ByteArray → Bool → Option (Int × Int × ByteArray × Int × Int × Int × Int × Int)
 | 0, _, _ => none
 | k + 1, x0, x63 => if x63 = true then (if 1 ≤ (x0.size : Int) then (none) else (none)) else (none)
def lex_next.l0 : Nat → ByteArray → List ByteArray → Int → Int → Option (Int × Int × ByteArray × Int × Int × Int × Int × Int)
 | 0, _, _, _, _ => none
 | k + 1, x0, x105, x106, x107 => if x107 < x106 then (if 0 ≤ x107 then (if x107 < (x105.length : Int) then ((strings_HasPrefix.f x0 (rdOf ByteArray.empty x105 x107)).bind fun t160 => (if t160 = true then (some (5, 0, rdOf ByteArray.empty x105 x107, 0, 0, 0, ((rdOf ByteArray.empty x105 x107).size : Int), 0)) else (lex_next.l0 k x0 x105 x106 (wrap64 (x107 + 1))))) else (none)) else (none)) else (some (0, 0, (⟨#[]⟩ : ByteArray), 0, 0, 0, 0, 5))
end
def lex_next.f (k : Nat) (a0 : ByteArray) : Option (Int × Int × ByteArray × Int × Int × Int × Int × Int) := if 0 < (a0.size : Int) then ((strings_IndexByte.f (⟨#[48, 49, 50, 51, 52, 53, 54, 55, 56, 57]⟩ : ByteArray) (bt a0 0)).bind fun t145 => (if t145 ≥ 0 then ((lex_number.f k a0).bind fun bt146 => (some (bt146.1, bt146.2.1, bt146.2.2.1, bt146.2.2.2.1, bt146.2.2.2.2.1, bt146.2.2.2.2.2.1, bt146.2.2.2.2.2.2.1, bt146.2.2.2.2.2.2.2))) else (if (bt a0 0) = 34 then (none) else (if (bt a0 0) = 64 then (if (a0.size : Int) > 1 then (if 1 < (a0.size : Int) then (lex_next.j0 k a0 ((bt a0 1) == 34)) else (none)) else (lex_next.j0 k a0 false)) else ((strings_IndexByte.f (⟨#[97, 98, 99, 100, 101, 102, 103, 104, 105, 106, 107, 108, 109, 110, 111, 112, 113, 114, 115, 116, 117, 118, 119, 120, 121, 122, 65, 66, 67, 68, 69, 70, 71, 72, 73, 74, 75, 76, 77, 78, 79, 80, 81, 82, 83, 84, 85, 86, 87, 88, 89, 90, 95]⟩ : ByteArray) (bt a0 0)).bind fun t154 => (if t154 ≥ 0 then ((lex_run.f a0 (⟨#[97, 98, 99, 100, 101, 102, 103, 104, 105, 106, 107, 108, 109, 110, 111, 112, 113, 114, 115, 116, 117, 118, 119, 120, 121, 122, 65, 66, 67, 68, 69, 70, 71, 72, 73, 74, 75, 76, 77, 78, 79, 80, 81, 82, 83, 84, 85, 86, 87, 88, 89, 90, 95, 48, 49, 50, 51, 52, 53, 54, 55, 56, 57]⟩ : ByteArray)).bind fun t155 => (if t155 > 32 then (none) else (if 0 ≤ t155 then (if t155 ≤ (a0.size : Int) then (some (4, 0, a0.extract 0 (t155 : Int).toNat, 0, 0, 0, t155, 0)) else (none)) else (none)))) else ((lex_signs.f).bind fun t156 => (lex_next.l0 k a0 t156 (t156.length : Int) 0)))))))) else (none)
theorem lex_next.mono_l : ∀ k, (∀ y0 y1, LeO (lex_next.j0 k y0 y1) (lex_next.j0 (k + 1) y0 y1)) ∧ (∀ y0 y1 y2 y3, LeO (lex_next.l0 k y0 y1 y2 y3) (lex_next.l0 (k + 1) y0 y1 y2 y3))
 | 0 => ⟨fun _ _ r h => by simp [lex_next.j0] at h, fun _ _ _ _ r h => by simp [lex_next.l0] at h⟩
 | k + 1 => by
  obtain ⟨ih0, ih1⟩ := lex_next.mono_l k
  refine ⟨?_, ?_⟩
  ·intro y0 y1
   unfold lex_next.j0
   have q0 := @lex_number.mono; exact lmo
  intro y0 y1 y2 y3
  unfold lex_next.l0
  have q0 := @lex_number.mono; exact lmo
theorem lex_next.mono : ∀ a0 k, LeO (lex_next.f k a0) (lex_next.f (k + 1) a0) := by
 intro a0 k
 obtain ⟨ih0, ih1⟩ := lex_next.mono_l k
 unfold lex_next.f
 have q0 := @lex_number.mono; exact lmo
set_option maxHeartbeats 8000000 in
set_option maxRecDepth 100000 in
theorem lex_next.calls (k : Nat) (a0 : ByteArray) (r1 r2 : Int) (r3 : ByteArray) (r4 r5 r6 r7 r8 : Int) (w : World) (hT : Tabs w) (h : lex_next.f k a0 = some (r1, r2, r3, r4, r5, r6, r7, r8)) :
  Calls Tryz.prog 106 #[.string a0] w fun e w' => e = .returned (.tuple #[.agg #[.int .i64 r1, .int .i64 r2, .string r3, .int .i64 r4, .int .i64 r5, .int .i64 r6], .int .i64 r7, .int .i64 r8]) ∧ Below w.heap.size w w' := by
 have hu136 := Tryz.underlying136
 have HT := am hT
 clear hT
 have HB := am (Below.refl w.heap.size w)
 have H : (if 0 < (a0.size : Int) then ((strings_IndexByte.f (⟨#[48, 49, 50, 51, 52, 53, 54, 55, 56, 57]⟩ : ByteArray) (bt a0 0)).bind fun t145 => (if t145 ≥ 0 then ((lex_number.f k a0).bind fun bt146 => (some (bt146.1, bt146.2.1, bt146.2.2.1, bt146.2.2.2.1, bt146.2.2.2.2.1, bt146.2.2.2.2.2.1, bt146.2.2.2.2.2.2.1, bt146.2.2.2.2.2.2.2))) else (if (bt a0 0) = 34 then (none) else (if (bt a0 0) = 64 then (if (a0.size : Int) > 1 then (if 1 < (a0.size : Int) then (lex_next.j0 k a0 ((bt a0 1) == 34)) else (none)) else (lex_next.j0 k a0 false)) else ((strings_IndexByte.f (⟨#[97, 98, 99, 100, 101, 102, 103, 104, 105, 106, 107, 108, 109, 110, 111, 112, 113, 114, 115, 116, 117, 118, 119, 120, 121, 122, 65, 66, 67, 68, 69, 70, 71, 72, 73, 74, 75, 76, 77, 78, 79, 80, 81, 82, 83, 84, 85, 86, 87, 88, 89, 90, 95]⟩ : ByteArray) (bt a0 0)).bind fun t154 => (if t154 ≥ 0 then ((lex_run.f a0 (⟨#[97, 98, 99, 100, 101, 102, 103, 104, 105, 106, 107, 108, 109, 110, 111, 112, 113, 114, 115, 116, 117, 118, 119, 120, 121, 122, 65, 66, 67, 68, 69, 70, 71, 72, 73, 74, 75, 76, 77, 78, 79, 80, 81, 82, 83, 84, 85, 86, 87, 88, 89, 90, 95, 48, 49, 50, 51, 52, 53, 54, 55, 56, 57]⟩ : ByteArray)).bind fun t155 => (if t155 > 32 then (none) else (if 0 ≤ t155 then (if t155 ≤ (a0.size : Int) then (some (4, 0, a0.extract 0 (t155 : Int).toNat, 0, 0, 0, t155, 0)) else (none)) else (none)))) else ((lex_signs.f).bind fun t156 => (lex_next.l0 k a0 t156 (t156.length : Int) 0)))))))) else (none)) = some (r1, r2, r3, r4, r5, r6, r7, r8) := h
 clear h
 by_cases c2 : 0 < (a0.size : Int)
 ·rw [if_pos c2] at H
  have c2b0 : decide (0 < (a0.size : Int)) = true := decide_eq_true c2
  have c2b1 : decide (0 < a0.size) = true := decide_eq_true (by omega)
  clear c2
  replace H := obe H
  obtain ⟨t145, A4, H⟩ := H
  have HC5 := am H
  clear H
  go_enter Tryz.func106, Tryz.ntmps106
  go_upto_if 19 with (first | ((with_reducible refine gate_dst (N := 2) rfl ?_); (try (refine gate_guard (by rfl) ?_; dsimp only)); refine bev (#[.int .i64 0, .int .i64 0, .string (⟨#[]⟩ : ByteArray), .int .i64 0, .int .i64 0, .int .i64 0]) 136 ?_; intro gb144 hg w6 hbox hb; have BK144 := am (hbox); have GW144 := gs hg HB; have GE144 := GW144; replace HB := sb HB hb; clear hb hbox hg; have p3 : 0 ≤ (0 : Int) := (by omega); have q3 : 0 < a0.size := (by have : (0 : Int) < (a0.size : Int) := of_decide_eq_true tz; omega); have hx3 : ∀ h : 0 < a0.size, ((a0[0]'h).toNat : Int) = bt a0 0 := bt_at a0 0; clear p3; have qi3 : (0 < (a0.size : Int)) = True := eq_true (of_decide_eq_true tz); replace q3 := eq_true q3) | ((with_reducible refine gate_callee (f := 145) rfl ?_); refine gl_ (some 21) Tryz.func145 (by kernel_rfl) #[.string (⟨#[48, 49, 50, 51, 52, 53, 54, 55, 56, 57]⟩ : ByteArray), .int .u8 (bt a0 0)] rfl ?_; (with_reducible refine (strings_IndexByte.calls (⟨#[48, 49, 50, 51, 52, 53, 54, 55, 56, 57]⟩ : ByteArray) (bt a0 0) t145 _ A4.out).mono ?_); rintro e w7 ⟨rfl, hb⟩; refine ⟨_, rfl, ?_⟩; replace BK144 := kb BK144 hb; replace HB := sb HB hb; clear hb))
  (try simp only [Act.put, List.setIfInBounds_toArray, List.set_cons_zero, List.set_cons_succ])
  have H := HC5.out
  clear HC5
  clear hx3
  by_cases c8 : t145 ≥ 0
  ·rw [if_pos c8] at H
   have c8b0 : decide (0 ≤ t145) = true := decide_eq_true c8
   clear c8
   (first | rw [c8b0] | (simp only [i64_w, i32_w]; rw [c8b0]) | skip)
   replace H := obe8 H
   obtain ⟨t146, t147, t148, t149, t150, t151, t152, t153, A9, H⟩ := H
   simp only [Option.some.injEq, Prod.mk.injEq] at H
   obtain ⟨rfl, rfl, rfl, rfl, rfl, rfl, rfl, rfl⟩ := H
   go_wp2_with (first | ((with_reducible refine gate_callee (f := 146) rfl ?_); refine gl_ (some 24) Tryz.func146 (by kernel_rfl) #[.string a0] rfl ?_; (with_reducible refine (lex_number.calls k a0 t146 t147 t148 t149 t150 t151 t152 t153 _ A9.out).mono ?_); rintro e w10 ⟨rfl, hb⟩; refine ⟨_, rfl, ?_⟩; replace BK144 := kb BK144 hb; replace HB := sb HB hb; clear hb; obtain ⟨Z11_0, Z11_1, Z11_2, Z11_3, Z11_4, Z11_5, F11_0, F11_1, F11_2, F11_3, F11_4, F11_5⟩ := cz6 BK144.out))
   refine bodyPost_ret (results_ctt rfl _ _ gb144 136 #[.int .i64 t146, .int .i64 t147, .string t148, .int .i64 t149, .int .i64 t150, .int .i64 t151] (0, 0) _ rfl (bp BK144.out) Tryz.underlying136 rfl (by kernel_rfl)) rfl ?_
   exact ⟨az, bz HB.out⟩
  rw [if_neg c8] at H
  have c8b0 : decide (0 ≤ t145) = false := decide_eq_false c8
  clear c8
  (first | rw [c8b0] | (simp only [i64_w, i32_w]; rw [c8b0]) | skip)
  by_cases c12 : (bt a0 0) = 34
  ·rw [if_pos c12] at H
   exact absurd H (by simp)
  replace H := ine c12 H
  obtain ⟨H, c12b0, c12b1⟩ := H
  by_cases c13 : (bt a0 0) = 64
  ·replace H := ipe c13 H
   obtain ⟨H, c13b0, c13b1⟩ := H
   clear c13
   have HC14 := am H
   clear H
   go_upto_region 11 with (fail)
   go_cut [63] (fun v63 wc => ∃ (kq : Nat) (x63_13 : Bool), v63 = .bool x63_13 ∧ Aside0 (lex_next.j0 kq a0 x63_13 = some (r1, r2, r3, r4, r5, r6, r7, r8)) ∧ Aside0 (kq ≤ k) ∧ Aside0 (wc.heap[gb144]? = some (.cells #[.int .i64 0, .int .i64 0, .string (⟨#[]⟩ : ByteArray), .int .i64 0, .int .i64 0, .int .i64 0] 136 (0, 0))) ∧ Aside0 (Below w.heap.size w wc))
   case first =>
    have H := HC14.out
    clear HC14
    by_cases c15 : (a0.size : Int) > 1
    ·rw [if_pos c15] at H
     have c15b0 : decide (1 < (a0.size : Int)) = true := decide_eq_true c15
     have c15b1 : decide (1 < a0.size) = true := decide_eq_true (by omega)
     clear c15
     (first | rw [c15b0] | (simp only [i64_w, i32_w]; rw [c15b0]) | skip)
     by_cases c16 : 1 < (a0.size : Int)
     ·rw [if_pos c16] at H
      have c16b0 : decide (1 < (a0.size : Int)) = true := decide_eq_true c16
      have c16b1 : decide (1 < a0.size) = true := decide_eq_true (by omega)
      clear c16
      have H' := am H
      clear H
      have p17 : 0 ≤ (1 : Int) := (by omega)
      have q17 : 1 < a0.size := (by have : (1 : Int) < (a0.size : Int) := of_decide_eq_true tz; omega)
      have hx17 : ∀ h : 1 < a0.size, ((a0[1]'h).toNat : Int) = bt a0 1 := bt_at a0 1
      clear p17
      have qi17 : (1 < (a0.size : Int)) = True := eq_true (of_decide_eq_true tz)
      replace q17 := eq_true q17
      go_wp2
      go_meet
      case rel => exact ⟨_, (((bt a0 1) == 34)), sz, H', ⟨oz⟩, ⟨bk BK144.out⟩, ⟨bz HB.out⟩⟩
     rw [if_neg c16] at H
     exact absurd H (by simp)
    rw [if_neg c15] at H
    have c15b0 : decide (1 < (a0.size : Int)) = false := decide_eq_false c15
    have c15b1 : decide (1 < a0.size) = false := decide_eq_false (by omega)
    clear c15
    (first | rw [c15b0] | (simp only [i64_w, i32_w]; rw [c15b0]) | skip)
    have H' := am H
    clear H
    go_wp2
    go_meet
    case rel => exact ⟨_, (false), sz, H', ⟨oz⟩, ⟨bk BK144.out⟩, ⟨bz HB.out⟩⟩
   case rest =>
    clear HC14
    try clear c2; try clear c2b0; try clear c2b1; try clear p3; try clear q3; try clear hx3; try clear qi3; try clear c8; try clear c8b0; try clear c12; try clear c12b0; try clear c12b1; try clear c13; try clear c13b0; try clear c13b1; try clear Z11_0; try clear Z11_1; try clear Z11_2; try clear Z11_3; try clear Z11_4; try clear Z11_5; try clear F11_0; try clear F11_1; try clear F11_2; try clear F11_3; try clear F11_4; try clear F11_5; try clear p3; try clear q3
    obtain ⟨kq, x63_13, rfl, HA, HJ13, BK144, HB⟩ := hcut
    cases kq with
    | zero => exact absurd HA.out (by simp [lex_next.j0])
    | succ kj13 =>
     have H := HA.out
     clear HA
     simp only [lex_next.j0] at H
     by_cases c18 : x63_13 = true
     ·subst c18
      replace H := ift H
      by_cases c19 : 1 ≤ (a0.size : Int)
      ·rw [if_pos c19] at H
       exact absurd H (by simp)
      rw [if_neg c19] at H
      exact absurd H (by simp)
     replace c18 := Bool.eq_false_iff.mpr c18
     subst c18
     replace H := iff_ H
     exact absurd H (by simp)
  replace H := ine c13 H
  obtain ⟨H, c13b0, c13b1⟩ := H
  replace H := obe H
  obtain ⟨t154, A20, H⟩ := H
  have HC21 := am H
  clear H
  go_upto_if 91 with (first | ((with_reducible refine gate_callee (f := 145) rfl ?_); refine gl_ (some 93) Tryz.func145 (by kernel_rfl) #[.string (⟨#[97, 98, 99, 100, 101, 102, 103, 104, 105, 106, 107, 108, 109, 110, 111, 112, 113, 114, 115, 116, 117, 118, 119, 120, 121, 122, 65, 66, 67, 68, 69, 70, 71, 72, 73, 74, 75, 76, 77, 78, 79, 80, 81, 82, 83, 84, 85, 86, 87, 88, 89, 90, 95]⟩ : ByteArray), .int .u8 (bt a0 0)] rfl ?_; (with_reducible refine (strings_IndexByte.calls (⟨#[97, 98, 99, 100, 101, 102, 103, 104, 105, 106, 107, 108, 109, 110, 111, 112, 113, 114, 115, 116, 117, 118, 119, 120, 121, 122, 65, 66, 67, 68, 69, 70, 71, 72, 73, 74, 75, 76, 77, 78, 79, 80, 81, 82, 83, 84, 85, 86, 87, 88, 89, 90, 95]⟩ : ByteArray) (bt a0 0) t154 _ A20.out).mono ?_); rintro e w22 ⟨rfl, hb⟩; refine ⟨_, rfl, ?_⟩; replace BK144 := kb BK144 hb; replace HB := sb HB hb; clear hb))
  (try simp only [Act.put, List.setIfInBounds_toArray, List.set_cons_zero, List.set_cons_succ])
  have H := HC21.out
  clear HC21
  by_cases c23 : t154 ≥ 0
  ·rw [if_pos c23] at H
   have c23b0 : decide (0 ≤ t154) = true := decide_eq_true c23
   clear c23
   (first | rw [c23b0] | (simp only [i64_w, i32_w]; rw [c23b0]) | skip)
   replace H := obe H
   obtain ⟨t155, A24, H⟩ := H
   by_cases c25 : t155 > 32
   ·rw [if_pos c25] at H
    exact absurd H (by simp)
   rw [if_neg c25] at H
   have c25b0 : decide (32 < t155) = false := decide_eq_false c25
   clear c25
   by_cases c26 : 0 ≤ t155
   ·rw [if_pos c26] at H
    have c26b0 := eq_true c26
    have c26b1 : decide (0 ≤ t155) = true := decide_eq_true c26
    clear c26
    by_cases c27 : t155 ≤ (a0.size : Int)
    ·rw [if_pos c27] at H
     have c27b0 := eq_true c27
     have c27b1 : decide (t155 ≤ (a0.size : Int)) = true := decide_eq_true c27
     clear c27
     simp only [Option.some.injEq, Prod.mk.injEq] at H
     obtain ⟨rfl, rfl, rfl, rfl, rfl, rfl, rfl, rfl⟩ := H
     go_wp2_with (first | ((with_reducible refine gate_callee (f := 105) rfl ?_); refine gl_ (some 96) Tryz.func105 (by kernel_rfl) #[.string a0, .string (⟨#[97, 98, 99, 100, 101, 102, 103, 104, 105, 106, 107, 108, 109, 110, 111, 112, 113, 114, 115, 116, 117, 118, 119, 120, 121, 122, 65, 66, 67, 68, 69, 70, 71, 72, 73, 74, 75, 76, 77, 78, 79, 80, 81, 82, 83, 84, 85, 86, 87, 88, 89, 90, 95, 48, 49, 50, 51, 52, 53, 54, 55, 56, 57]⟩ : ByteArray)] rfl ?_; (with_reducible refine (lex_run.calls a0 (⟨#[97, 98, 99, 100, 101, 102, 103, 104, 105, 106, 107, 108, 109, 110, 111, 112, 113, 114, 115, 116, 117, 118, 119, 120, 121, 122, 65, 66, 67, 68, 69, 70, 71, 72, 73, 74, 75, 76, 77, 78, 79, 80, 81, 82, 83, 84, 85, 86, 87, 88, 89, 90, 95, 48, 49, 50, 51, 52, 53, 54, 55, 56, 57]⟩ : ByteArray) t155 _ A24.out).mono ?_); rintro e w28 ⟨rfl, hb⟩; refine ⟨_, rfl, ?_⟩; replace BK144 := kb BK144 hb; replace HB := sb HB hb; clear hb; obtain ⟨Z29_0, Z29_1, Z29_2, Z29_3, Z29_4, Z29_5, F29_0, F29_1, F29_2, F29_3, F29_4, F29_5⟩ := cz6 BK144.out))
     refine bodyPost_ret (results_ctt rfl _ _ gb144 136 #[.int .i64 4, .int .i64 0, .string (a0.extract 0 (t155 : Int).toNat), .int .i64 0, .int .i64 0, .int .i64 0] (0, 0) _ rfl (bp BK144.out) Tryz.underlying136 rfl (by kernel_rfl)) rfl ?_
     exact ⟨az, bz HB.out⟩
    rw [if_neg c27] at H
    exact absurd H (by simp)
   rw [if_neg c26] at H
   exact absurd H (by simp)
  rw [if_neg c23] at H
  have c23b0 : decide (0 ≤ t154) = false := decide_eq_false c23
  clear c23
  (first | rw [c23b0] | (simp only [i64_w, i32_w]; rw [c23b0]) | skip)
  replace H := obe H
  obtain ⟨t156, A30, H⟩ := H
  have H' := am H
  clear H
  go_wp2_with (first | ((with_reducible refine gate_callee (f := 149) rfl ?_); refine gl_ (some 105) Tryz.func149 (by kernel_rfl) #[] rfl ?_; (with_reducible refine (lex_signs.calls  t156 _ A30.out).mono ?_); rintro e w31 ⟨v157, rfl, ho0, hb⟩; refine ⟨_, rfl, ?_⟩; have HO158 := am (Kd.R_lower ho0 (below_size (bz HB.out))); replace BK144 := kb BK144 hb; replace HB := sb HB hb; clear hb ho0; obtain ⟨Ao32, co32, eo32⟩ := Kd.R_slice HO158.out; subst eo32))
  (try simp only [Act.put, List.setIfInBounds_toArray, List.set_cons_succ, List.set_cons_zero])
  go_loopg [107] k (fun kq v107 w' => ∃ (x107_1 x145000_1 x145001_1 : Int) (x145002_1 : ByteArray) (x145003_1 x145004_1 x145005_1 : Int), v107 = .int .i64 x107_1 ∧ Aside0 (lex_next.l0 kq a0 t156 (t156.length : Int) x107_1 = some (r1, r2, r3, r4, r5, r6, r7, r8)) ∧ Aside0 (kq ≤ k) ∧ Aside0 (Kd.R Kd.string 9 w' w.heap.size (fun _ => True) (.slice Ao32 t156.length co32) t156) ∧ Aside0 (w'.heap[gb144]? = some (.cells #[.int .i64 x145000_1, .int .i64 x145001_1, .string x145002_1, .int .i64 x145003_1, .int .i64 x145004_1, .int .i64 x145005_1] 136 (0, 0))) ∧ Aside0 (Below w.heap.size w w'))
  case atStart => exact ⟨(0), (0), (0), ((⟨#[]⟩ : ByteArray)), (0), (0), (0), sz, H', ⟨Nat.le_refl _⟩, ⟨rr HO158.out⟩, ⟨bk BK144.out⟩, ⟨bz HB.out⟩⟩
  case round =>
   clear H'
   try clear c2; try clear c2b0; try clear c2b1; try clear p3; try clear q3; try clear hx3; try clear qi3; try clear c8; try clear c8b0; try clear c12; try clear c12b0; try clear c12b1; try clear c13; try clear c13b0; try clear c13b1; try clear c15; try clear c15b0; try clear c15b1; try clear c16; try clear c16b0; try clear c16b1; try clear p17; try clear q17; try clear hx17; try clear qi17; try clear c18; try clear c19; try clear c23; try clear c23b0; try clear c25; try clear c25b0; try clear c26; try clear c26b0; try clear c26b1; try clear c27; try clear c27b0; try clear c27b1; try clear Z11_0; try clear Z11_1; try clear Z11_2; try clear Z11_3; try clear Z11_4; try clear Z11_5; try clear Z29_0; try clear Z29_1; try clear Z29_2; try clear Z29_3; try clear Z29_4; try clear Z29_5; try clear F11_0; try clear F11_1; try clear F11_2; try clear F11_3; try clear F11_4; try clear F11_5; try clear F29_0; try clear F29_1; try clear F29_2; try clear F29_3; try clear F29_4; try clear F29_5; try clear p17; try clear p3; try clear q17; try clear q3
   obtain ⟨x107_1, x145000_1, x145001_1, x145002_1, x145003_1, x145004_1, x145005_1, rfl, HA, HK1, HO_105, BK144, HB⟩ := hrel
   cases gk with
   | zero => exact absurd HA.out (by simp [lex_next.l0])
   | succ k1 =>
    have H := HA.out
    clear HA
    simp only [lex_next.l0] at H
    by_cases c33 : x107_1 < (t156.length : Int)
    ·rw [if_pos c33] at H
     have c33b0 : decide (x107_1 < (t156.length : Int)) = true := decide_eq_true c33
     clear c33
     by_cases c34 : 0 ≤ x107_1
     ·rw [if_pos c34] at H
      have c34b0 : decide (0 ≤ x107_1) = true := decide_eq_true c34
      clear c34
      by_cases c35 : x107_1 < (t156.length : Int)
      ·rw [if_pos c35] at H
       have c35b0 : decide (x107_1 < (t156.length : Int)) = true := decide_eq_true c35
       clear c35
       replace H := obe H
       obtain ⟨t160, A36, H⟩ := H
       have HC37 := am H
       clear H
       have p159 : 0 ≤ (x107_1 : Int) := of_decide_eq_true tz
       have q159 : x107_1 < (t156.length : Int) := of_decide_eq_true tz
       obtain ⟨ad159, e159, hx159_0⟩ := Kd.at_string (Kd.R_reads' HO_105.out).2.2 x107_1 p159 q159
       cases e159
       replace p159 := eq_true p159
       replace q159 := eq_true q159
       go_upto_if 113 with (first | ((with_reducible refine gate_callee (f := 132) rfl ?_); refine gl_ (some 113) Tryz.func132 (by kernel_rfl) #[.string a0, .string (rdOf ByteArray.empty t156 x107_1)] rfl ?_; (with_reducible refine (strings_HasPrefix.calls a0 (rdOf ByteArray.empty t156 x107_1) t160 _ A36.out).mono ?_); rintro e w' ⟨rfl, ⟨nd, rfl⟩⟩; refine ⟨_, rfl, ?_⟩))
       (try simp only [Act.put, List.setIfInBounds_toArray, List.set_cons_zero, List.set_cons_succ])
       have H := HC37.out
       clear HC37
       clear hx159_0
       by_cases c38 : t160 = true
       ·subst c38
        replace H := ift H
        simp only [Option.some.injEq, Prod.mk.injEq] at H
        obtain ⟨rfl, rfl, rfl, rfl, rfl, rfl, rfl, rfl⟩ := H
        obtain ⟨Z39_0, Z39_1, Z39_2, Z39_3, Z39_4, Z39_5, F39_0, F39_1, F39_2, F39_3, F39_4, F39_5⟩ := cz6 BK144.out
        go_wp2
        refine bodyPost_ret (results_ctt rfl _ _ gb144 136 #[.int .i64 5, .int .i64 0, .string (rdOf ByteArray.empty t156 x107_1), .int .i64 0, .int .i64 0, .int .i64 0] (0, 0) _ rfl (bp BK144.out) Tryz.underlying136 rfl (by kernel_rfl)) rfl ?_
        exact ⟨az, bz HB.out⟩
       replace c38 := Bool.eq_false_iff.mpr c38
       subst c38
       replace H := iff_ H
       have H' := am H
       clear H
       go_wp2
       go_roundg k1
       case measure => have := HK1.out; omega
       case rel => exact ⟨(wrap64 (x107_1 + 1)), (x145000_1), (x145001_1), (x145002_1), (x145003_1), (x145004_1), (x145005_1), sz, H', ⟨by have := HK1.out; omega⟩, ⟨rr HO_105.out⟩, ⟨bk BK144.out⟩, ⟨bz HB.out⟩⟩
      rw [if_neg c35] at H
      exact absurd H (by simp)
     rw [if_neg c34] at H
     exact absurd H (by simp)
    rw [if_neg c33] at H
    have c33b0 : decide (x107_1 < (t156.length : Int)) = false := decide_eq_false c33
    clear c33
    simp only [Option.some.injEq, Prod.mk.injEq] at H
    obtain ⟨rfl, rfl, rfl, rfl, rfl, rfl, rfl, rfl⟩ := H
    obtain ⟨Z40_0, Z40_1, Z40_2, Z40_3, Z40_4, Z40_5, F40_0, F40_1, F40_2, F40_3, F40_4, F40_5⟩ := cz6 BK144.out
    go_wp2
    refine bodyPost_ret (results_ctt rfl _ _ gb144 136 #[.int .i64 0, .int .i64 0, .string (⟨#[]⟩ : ByteArray), .int .i64 0, .int .i64 0, .int .i64 0] (0, 0) _ rfl (bp BK144.out) Tryz.underlying136 rfl (by kernel_rfl)) rfl ?_
    exact ⟨az, bz HB.out⟩
 rw [if_neg c2] at H
 exact absurd H (by simp)
end Go.Proofs.YtgkemhgihbfmmaaGreatDoor.PA
end
section
namespace Go.Proofs.YtgkemhgihbfmmaaGreatDoor.PA
open Go.RowKit Go.Proofs.YtgkemhgihbfmmaaGreatDoorW.PrintWords Go.Proofs.YtgkemhgihbfmmaaGreatDoorW.PrintLast Go.Proofs.YtgkemhgihbfmmaaGreatDoorW.PrintMore
attribute [local go_sem] max2_int min2_int max_two min_two max_three min_three max_four min_four isSome_set str_gtr
set_option linter.unusedVariables false
set_option linter.unusedSimpArgs false
def lex_Tokens.l0 : Nat → ByteArray → List (S136) → Int → Option ((List (S136)) × Int × Int)
 | 0, _, _, _ => none
 | k + 1, x0, x5, x6 => if x6 < (x0.size : Int) then (if 0 ≤ x6 then (if x6 ≤ (x0.size : Int) then ((lex_next.f k (x0.extract (x6 : Int).toNat x0.size)).bind fun bt162 => (if bt162.2.2.2.2.2.2.2 = 0 then (if x5.length < 2513169434916 then (if 0 ≤ (wrap64 (x6 + bt162.2.2.2.2.2.2.1)) then (if (wrap64 (x6 + bt162.2.2.2.2.2.2.1)) ≤ (x0.size : Int) then ((lex_run.f (x0.extract ((wrap64 (x6 + bt162.2.2.2.2.2.2.1)) : Int).toNat x0.size) (⟨#[32, 9, 13, 10]⟩ : ByteArray)).bind fun t174 => (lex_Tokens.l0 k x0 (x5 ++ [(⟨bt162.1, x6, bt162.2.2.1, (⟨bt162.2.2.2.1, bt162.2.2.2.2.1⟩ : S23), bt162.2.2.2.2.2.1⟩ : S136)]) (wrap64 ((wrap64 (x6 + bt162.2.2.2.2.2.2.1)) + t174)))) else (none)) else (none)) else (none)) else (none))) else (none)) else (none)) else (some (x5, 0, 0))
def lex_Tokens.f (k : Nat) (a0 : ByteArray) : Option ((List (S136)) × Int × Int) := if (a0.size : Int) > 65536 then (none) else ((lex_run.f a0 (⟨#[32, 9, 13, 10]⟩ : ByteArray)).bind fun t161 => (lex_Tokens.l0 k a0 ([] : List (S136)) t161))
theorem lex_Tokens.mono_l : ∀ k, (∀ y0 y1 y2, LeO (lex_Tokens.l0 k y0 y1 y2) (lex_Tokens.l0 (k + 1) y0 y1 y2))
 | 0 => fun _ _ _ r h => by simp [lex_Tokens.l0] at h
 | k + 1 => by
  have ih0 := lex_Tokens.mono_l k
  ·intro y0 y1 y2
   unfold lex_Tokens.l0
   have q0 := @lex_next.mono; exact lmo
theorem lex_Tokens.mono : ∀ a0 k, LeO (lex_Tokens.f k a0) (lex_Tokens.f (k + 1) a0) := by
 intro a0 k
 have ih0 := lex_Tokens.mono_l k
 unfold lex_Tokens.f
 have q0 := @lex_next.mono; exact lmo
set_option maxHeartbeats 8000000 in
set_option maxRecDepth 100000 in
theorem lex_Tokens.calls (k : Nat) (a0 : ByteArray) (r1 : List (S136)) (r2 r3 : Int) (w : World) (hT : Tabs w) (h : lex_Tokens.f k a0 = some (r1, r2, r3)) :
  Calls Tryz.prog 62 #[.string a0] w fun e w' => ∃ v0_ : Value, e = .returned (.tuple #[v0_, .int .i64 r2, .int .i64 r3]) ∧ Kd.R k136 136 w' w.heap.size (fun _ => True) v0_ r1 ∧ Below w.heap.size w w' := by
 have hu136 := Tryz.underlying136
 have HT := am hT
 clear hT
 have HB := am (Below.refl w.heap.size w)
 have H : (if (a0.size : Int) > 65536 then (none) else ((lex_run.f a0 (⟨#[32, 9, 13, 10]⟩ : ByteArray)).bind fun t161 => (lex_Tokens.l0 k a0 ([] : List (S136)) t161))) = some (r1, r2, r3) := h
 clear h
 by_cases c2 : (a0.size : Int) > 65536
 ·rw [if_pos c2] at H
  exact absurd H (by simp)
 rw [if_neg c2] at H
 have c2b0 : decide (65536 < (a0.size : Int)) = false := decide_eq_false c2
 have c2b1 : decide (65536 < a0.size) = false := decide_eq_false (by omega)
 clear c2
 replace H := obe H
 obtain ⟨t161, A3, H⟩ := H
 have H' := am H
 clear H
 go_enter Tryz.func62, Tryz.ntmps62
 go_wp2_with (first | ((with_reducible refine gate_callee (f := 105) rfl ?_); refine gl_ (some 14) Tryz.func105 (by kernel_rfl) #[.string a0, .string (⟨#[32, 9, 13, 10]⟩ : ByteArray)] rfl ?_; (with_reducible refine (lex_run.calls a0 (⟨#[32, 9, 13, 10]⟩ : ByteArray) t161 _ A3.out).mono ?_); rintro e w4 ⟨rfl, hb⟩; refine ⟨_, rfl, ?_⟩; replace HB := sb HB hb; clear hb))
 (try simp only [Act.put, List.setIfInBounds_toArray, List.set_cons_succ, List.set_cons_zero])
 go_loopg [5, 6] k (fun kq v5 v6 w' => ∃ (x5_1 : List (S136)) (x6_1 : Int), v6 = .int .i64 x6_1 ∧ Aside0 (lex_Tokens.l0 kq a0 x5_1 x6_1 = some (r1, r2, r3)) ∧ Aside0 (kq ≤ k) ∧ Aside0 (Kd.R k136 136 w' w.heap.size (fun _ => True) v5 x5_1) ∧ Aside0 (Below w.heap.size w w'))
 case atStart => exact ⟨(([] : List (S136))), (t161), sz, H', ⟨Nat.le_refl _⟩, ⟨by first | exact Kd.R_nil _ _ _ _ _ | exact Kd.N_nil _ _ _ _ _ | exact Kd.V_nil _ _ _ _ _ | exact Kd.Q_nil _ _ _ _ _ | exact Kd.S_nil _ _ _ _ _⟩, ⟨bz HB.out⟩⟩
 case round =>
  clear H'
  try clear c2; try clear c2b0; try clear c2b1
  obtain ⟨x5_1, x6_1, rfl, HA, HK1, HO_5, HB⟩ := hrel
  cases gk with
  | zero => exact absurd HA.out (by simp [lex_Tokens.l0])
  | succ k1 =>
   have H := HA.out
   clear HA
   simp only [lex_Tokens.l0] at H
   by_cases c5 : x6_1 < (a0.size : Int)
   ·rw [if_pos c5] at H
    have c5b0 : decide (x6_1 < (a0.size : Int)) = true := decide_eq_true c5
    clear c5
    by_cases c6 : 0 ≤ x6_1
    ·rw [if_pos c6] at H
     have c6b0 := eq_true c6
     have c6b1 : decide (0 ≤ x6_1) = true := decide_eq_true c6
     clear c6
     by_cases c7 : x6_1 ≤ (a0.size : Int)
     ·rw [if_pos c7] at H
      have c7b0 := eq_true c7
      have c7b1 : decide (x6_1 ≤ (a0.size : Int)) = true := decide_eq_true c7
      clear c7
      replace H := obe8 H
      obtain ⟨t162, t163, t164, t165, t166, t167, t168, t169, A8, H⟩ := H
      by_cases c9 : t169 = 0
      ·replace H := ipe c9 H
       obtain ⟨H, c9b0, c9b1⟩ := H
       clear c9
       by_cases c10 : x5_1.length < 2513169434916
       ·rw [if_pos c10] at H
        have LMc10 := am c10
        clear c10
        obtain ⟨y171, hy171⟩ : ∃ y_ : List (S136), y_ = (x5_1 ++ [(⟨t162, x6_1, t164, (⟨t165, t166⟩ : S23), t167⟩ : S136)]) := ⟨_, rfl⟩
        replace H : (if 0 ≤ (wrap64 (x6_1 + t168)) then (if (wrap64 (x6_1 + t168)) ≤ (a0.size : Int) then ((lex_run.f (a0.extract ((wrap64 (x6_1 + t168)) : Int).toNat a0.size) (⟨#[32, 9, 13, 10]⟩ : ByteArray)).bind fun t174 => (lex_Tokens.l0 k1 a0 y171 (wrap64 ((wrap64 (x6_1 + t168)) + t174)))) else (none)) else (none)) = some (r1, r2, r3) := by first | (rw [hy171]; with_reducible exact H) | (have H2_ := (Option.bind_some _ _).symm.trans H; rw [hy171]; with_reducible exact H2_) | (have H2_ := (Option.bind_some _ _).symm.trans H; with_reducible exact H2_) | with_reducible exact H | (rw [hy171]; exact H) | exact H
        have Ny171 := am hy171
        clear hy171
        obtain ⟨ji11, hji11⟩ : ∃ j_ : Int, (wrap64 (x6_1 + t168)) = j_ := ⟨_, rfl⟩
        replace H : (if 0 ≤ (ji11) then (if (ji11) ≤ (a0.size : Int) then ((lex_run.f (a0.extract ((ji11) : Int).toNat a0.size) (⟨#[32, 9, 13, 10]⟩ : ByteArray)).bind fun t174 => (lex_Tokens.l0 k1 a0 y171 (wrap64 ((ji11) + t174)))) else (none)) else (none)) = some (r1, r2, r3) := by first | (rw [hji11] at H; exact H) | (simp only [hji11] at H ⊢; exact H)
        (try rw [hji11] at A8)
        have hji11w : (IntKind.i64.wrap (x6_1 + t168)) = ji11 := (i64_w _).trans hji11
        by_cases c12 : 0 ≤ (ji11)
        ·rw [if_pos c12] at H
         have c12b0 := eq_true c12
         have c12b1 : decide (0 ≤ (ji11)) = true := decide_eq_true c12
         clear c12
         by_cases c13 : (ji11) ≤ (a0.size : Int)
         ·rw [if_pos c13] at H
          have c13b0 := eq_true c13
          have c13b1 : decide ((ji11) ≤ (a0.size : Int)) = true := decide_eq_true c13
          clear c13
          replace H := obe H
          obtain ⟨t174, A14, H⟩ := H
          have H' := am H
          clear H
          go_wp2_with (first | ((with_reducible refine gate_callee (f := 106) rfl ?_); refine gl_ (some 29) Tryz.func106 (by kernel_rfl) #[.string (a0.extract (x6_1 : Int).toNat a0.size)] rfl ?_; (with_reducible refine (lex_next.calls k1 (a0.extract (x6_1 : Int).toNat a0.size) t162 t163 t164 t165 t166 t167 t168 t169 _ ?side1 A8.out).mono ?_); (case side1 => exact tabs_of HT.out (bz HB.out)); rintro e w15 ⟨rfl, hb⟩; refine ⟨_, rfl, ?_⟩; replace HO_5 := am (Kd.R_below (rr HO_5.out) hb); replace HB := sb HB hb; clear hb) | ((with_reducible refine gate_dst (N := 7) rfl ?_); refine bev (#[.int .i64 0, .int .i64 0, .string (⟨#[]⟩ : ByteArray), .int .i64 0, .int .i64 0, .int .i64 0]) 136 ?_; intro gb170 hg w16 hbox hb; replace HO_5 := am (Kd.R_below (Kd.R_elderB (rr HO_5.out) gb170 (Nat.le_of_eq hg.symm)) hb); have BK170 := am (hbox); have GW170 := gs hg HB; have GE170 := GW170; replace HB := sb HB hb; clear hb hbox hg; obtain ⟨Z17_0, Z17_1, Z17_2, Z17_3, Z17_4, Z17_5, F17_0, F17_1, F17_2, F17_3, F17_4, F17_5⟩ := cz6 BK170.out) | ((with_reducible refine gate_builtin (b := .append) (xs := #[.tmp 39, .tmp 41]) rfl ?_); at_builtin; refine Kd.R_append k136 (w0 := w) w.heap.size rfl (.tmp 39) (.tmp 41) 61 136 (.agg #[(.int .i64 0), (.int .i64 0), (.string ⟨#[]⟩), (.int .i64 0), (.int .i64 0), (.int .i64 0)]) 56 rfl Tryz.underlying61 info136 rfl (by decide) (by omega) u5 x5_1 (⟨t162, x6_1, t164, (⟨t165, t166⟩ : S23), t167⟩ : S136) [.int .i64 t162, .int .i64 x6_1, .string t164, .int .i64 t165, .int .i64 t166, .int .i64 t167] (fun k_ => k_ ≠ gb170) (fun _ => False) rfl (by first | (go_simp; done) | (go_simp; rfl)) ?aP (fun _ hk => hk.elim) ?aF ?aO ?aB ?aS ?aL ?_; (case aP => exact k136_mkM _ _ _ (⟨t162, x6_1, t164, (⟨t165, t166⟩ : S23), t167⟩ : S136)); (case aB => exact (bz HB.out)); (case aF => exact (fun k_ hk => Kd.freshB (g := gb170) (o := .cells #[.int .i64 t162, .int .i64 x6_1, .string t164, .int .i64 t165, .int .i64 t166, .int .i64 t167] 136 (0, 0)) (by (with_reducible repeat (first | refine blk_drewN ?_ _ | refine blk_drew ?_ | refine blk_alloc ?_ _)); refine blk_put (cs := #[.int .i64 t162, .int .i64 t163, .string t164, .int .i64 t165, .int .i64 t166, .int .i64 t167]) ?_ 1 _ rfl; (with_reducible repeat (first | refine blk_drewN ?_ _ | refine blk_drew ?_ | refine blk_alloc ?_ _)); refine blk_put (cs := #[.int .i64 t162, .int .i64 t163, .string t164, .int .i64 t165, .int .i64 t166, .int .i64 0]) ?_ 5 _ rfl; (with_reducible repeat (first | refine blk_drewN ?_ _ | refine blk_drew ?_ | refine blk_alloc ?_ _)); refine blk_put (cs := #[.int .i64 t162, .int .i64 t163, .string t164, .int .i64 t165, .int .i64 0, .int .i64 0]) ?_ 4 _ rfl; (with_reducible repeat (first | refine blk_drewN ?_ _ | refine blk_drew ?_ | refine blk_alloc ?_ _)); refine blk_put (cs := #[.int .i64 t162, .int .i64 t163, .string t164, .int .i64 0, .int .i64 0, .int .i64 0]) ?_ 3 _ rfl; (with_reducible repeat (first | refine blk_drewN ?_ _ | refine blk_drew ?_ | refine blk_alloc ?_ _)); refine blk_put (cs := #[.int .i64 t162, .int .i64 t163, .string (⟨#[]⟩ : ByteArray), .int .i64 0, .int .i64 0, .int .i64 0]) ?_ 2 _ rfl; (with_reducible repeat (first | refine blk_drewN ?_ _ | refine blk_drew ?_ | refine blk_alloc ?_ _)); refine blk_put (cs := #[.int .i64 t162, .int .i64 0, .string (⟨#[]⟩ : ByteArray), .int .i64 0, .int .i64 0, .int .i64 0]) ?_ 1 _ rfl; (with_reducible repeat (first | refine blk_drewN ?_ _ | refine blk_drew ?_ | refine blk_alloc ?_ _)); refine blk_put (cs := #[.int .i64 0, .int .i64 0, .string (⟨#[]⟩ : ByteArray), .int .i64 0, .int .i64 0, .int .i64 0]) ?_ 0 _ rfl; (with_reducible repeat (first | refine blk_drewN ?_ _ | refine blk_drew ?_ | refine blk_alloc ?_ _)); exact BK170.out) k_ hk)); (case aO => exact (vfR HO_5.out)); (case aS => exact (below_size (bz HB.out))); (case aL => have := LMc10.out; omega); intro v172 w18 ho hb hg hat; rw [← Ny171.out] at ho; replace BK170 := am (blk_grown (g := gb170) (o := .cells #[.int .i64 t162, .int .i64 x6_1, .string t164, .int .i64 t165, .int .i64 t166, .int .i64 t167] 136 (0, 0)) (by (with_reducible repeat (first | refine blk_drewN ?_ _ | refine blk_drew ?_ | refine blk_alloc ?_ _)); refine blk_put (cs := #[.int .i64 t162, .int .i64 t163, .string t164, .int .i64 t165, .int .i64 t166, .int .i64 t167]) ?_ 1 _ rfl; (with_reducible repeat (first | refine blk_drewN ?_ _ | refine blk_drew ?_ | refine blk_alloc ?_ _)); refine blk_put (cs := #[.int .i64 t162, .int .i64 t163, .string t164, .int .i64 t165, .int .i64 t166, .int .i64 0]) ?_ 5 _ rfl; (with_reducible repeat (first | refine blk_drewN ?_ _ | refine blk_drew ?_ | refine blk_alloc ?_ _)); refine blk_put (cs := #[.int .i64 t162, .int .i64 t163, .string t164, .int .i64 t165, .int .i64 0, .int .i64 0]) ?_ 4 _ rfl; (with_reducible repeat (first | refine blk_drewN ?_ _ | refine blk_drew ?_ | refine blk_alloc ?_ _)); refine blk_put (cs := #[.int .i64 t162, .int .i64 t163, .string t164, .int .i64 0, .int .i64 0, .int .i64 0]) ?_ 3 _ rfl; (with_reducible repeat (first | refine blk_drewN ?_ _ | refine blk_drew ?_ | refine blk_alloc ?_ _)); refine blk_put (cs := #[.int .i64 t162, .int .i64 t163, .string (⟨#[]⟩ : ByteArray), .int .i64 0, .int .i64 0, .int .i64 0]) ?_ 2 _ rfl; (with_reducible repeat (first | refine blk_drewN ?_ _ | refine blk_drew ?_ | refine blk_alloc ?_ _)); refine blk_put (cs := #[.int .i64 t162, .int .i64 0, .string (⟨#[]⟩ : ByteArray), .int .i64 0, .int .i64 0, .int .i64 0]) ?_ 1 _ rfl; (with_reducible repeat (first | refine blk_drewN ?_ _ | refine blk_drew ?_ | refine blk_alloc ?_ _)); refine blk_put (cs := #[.int .i64 0, .int .i64 0, .string (⟨#[]⟩ : ByteArray), .int .i64 0, .int .i64 0, .int .i64 0]) ?_ 0 _ rfl; (with_reducible repeat (first | refine blk_drewN ?_ _ | refine blk_drew ?_ | refine blk_alloc ?_ _)); exact BK170.out) hg (Kd.R_away HO_5.out (fun _ hk => hk.2))); replace HB := am (hb); have HO173 := am (ho); clear HO_5 ho hb hg hat) | ((with_reducible refine gate_callee (f := 105) rfl ?_); refine goesL_ (some 23) rfl rfl Tryz.func105 (by kernel_rfl) rfl #[.string (a0.extract ((ji11) : Int).toNat a0.size), .string (⟨#[32, 9, 13, 10]⟩ : ByteArray)] rfl (by (try simp only [List.map_toArray, List.map_cons, List.map_nil]); first | done | (simp only [hji11]; rfl) | rfl | (simp only [List.length_drop, List.length_take]; rfl)) ?_; (with_reducible refine (lex_run.calls (a0.extract ((ji11) : Int).toNat a0.size) (⟨#[32, 9, 13, 10]⟩ : ByteArray) t174 _ A14.out).mono ?_); rintro e w19 ⟨rfl, hb⟩; refine ⟨_, rfl, ?_⟩; replace HO173 := am (Kd.R_below (rr HO173.out) hb); replace BK170 := kb BK170 hb; replace HB := sb HB hb; clear hb))
          go_roundg k1
          case measure => have := HK1.out; omega
          case rel => exact ⟨(y171), (wrap64 ((ji11) + t174)), (by first | rfl | (simp; done) | (simp only [← hji11] <;> (first | rfl | simp)) | (simp [*]; done)), H', ⟨by have := HK1.out; omega⟩, ⟨by (with_reducible repeat (first | apply Kd.R_alloc | apply Kd.R_drewN | apply Kd.R_drew)); exact Kd.R_mono HO173.out (fun _ hk => trivial)⟩, ⟨bz HB.out⟩⟩
         rw [if_neg c13] at H
         exact absurd H (by simp)
        rw [if_neg c12] at H
        exact absurd H (by simp)
       rw [if_neg c10] at H
       exact absurd H (by simp)
      rw [if_neg c9] at H
      exact absurd H (by simp)
     rw [if_neg c7] at H
     exact absurd H (by simp)
    rw [if_neg c6] at H
    exact absurd H (by simp)
   rw [if_neg c5] at H
   have c5b0 : decide (x6_1 < (a0.size : Int)) = false := decide_eq_false c5
   clear c5
   simp only [Option.some.injEq, Prod.mk.injEq] at H
   obtain ⟨rfl, rfl, rfl⟩ := H
   go_wp2
   go_ret3
   exact ⟨_, az, rr HO_5.out, bz HB.out⟩
end Go.Proofs.YtgkemhgihbfmmaaGreatDoor.PA
end
section
namespace Go.Proofs.YtgkemhgihbfmmaaGreatDoor.PA
open Go.RowKit Go.Proofs.YtgkemhgihbfmmaaGreatDoorW.PrintWords Go.Proofs.YtgkemhgihbfmmaaGreatDoorW.PrintLast Go.Proofs.YtgkemhgihbfmmaaGreatDoorW.PrintMore
attribute [local go_sem] max2_int min2_int max_two min_two max_three min_three max_four min_four isSome_set str_gtr
set_option linter.unusedVariables false
set_option linter.unusedSimpArgs false
def deci_Make.j0 : Nat → Int → Int → Bool → Option (Int × Int × Int)
 | 0, _, _, _ => none
 | k + 1, x0, x1, x19 => if x19 = true then (some (0, 0, 3)) else ((deci_form_dec.f k (IntKind.u64.wrap (mx x0 (wrap64 (-x0)))) x1 (decide (x0 < 0))).bind fun bt176 => (some (bt176.1, bt176.2.1, bt176.2.2)))
def deci_Make.f (k : Nat) (a0 a1 : Int) : Option (Int × Int × Int) := if a1 < 0 then (deci_Make.j0 k a0 a1 true) else (if a1 > 6 then (deci_Make.j0 k a0 a1 true) else (if a0 > 999999999999 then (deci_Make.j0 k a0 a1 true) else (deci_Make.j0 k a0 a1 (decide (a0 < (-999999999999))))))
theorem deci_Make.mono_l : ∀ k, (∀ y0 y1 y2, LeO (deci_Make.j0 k y0 y1 y2) (deci_Make.j0 (k + 1) y0 y1 y2))
 | 0 => fun _ _ _ r h => by simp [deci_Make.j0] at h
 | k + 1 => by
  have ih0 := deci_Make.mono_l k
  ·intro y0 y1 y2
   unfold deci_Make.j0
   have q0 := @deci_form_dec.mono; exact lmo
theorem deci_Make.mono : ∀ a0 a1 k, LeO (deci_Make.f k a0 a1) (deci_Make.f (k + 1) a0 a1) := by
 intro a0 a1 k
 have ih0 := deci_Make.mono_l k
 unfold deci_Make.f
 have q0 := @deci_form_dec.mono; exact lmo
set_option maxHeartbeats 8000000 in
set_option maxRecDepth 100000 in
theorem deci_Make.calls (k : Nat) (a0 a1 r1 r2 r3 : Int) (w : World) (h : deci_Make.f k a0 a1 = some (r1, r2, r3)) :
  Calls Tryz.prog 115 #[.int .i64 a0, .int .i64 a1] w fun e w' => e = .returned (.tuple #[.agg #[.int .i64 r1, .int .i64 r2], .int .i64 r3]) ∧ Below w.heap.size w w' := by
 have hu23 := Tryz.underlying23
 have hu77 := Tryz.underlying77
 have HB := am (Below.refl w.heap.size w)
 have H : (if a1 < 0 then (deci_Make.j0 k a0 a1 true) else (if a1 > 6 then (deci_Make.j0 k a0 a1 true) else (if a0 > 999999999999 then (deci_Make.j0 k a0 a1 true) else (deci_Make.j0 k a0 a1 (decide (a0 < (-999999999999))))))) = some (r1, r2, r3) := h
 clear h
 have HC3 := am H
 clear H
 go_enter Tryz.func115, Tryz.ntmps115
 go_upto_region 1 with (first | ((with_reducible refine gate_dst (N := 4) rfl ?_); refine bev (#[.int .i64 0, .int .i64 0]) 23 ?_; intro gb175 hg w4 hbox hb; have BK175 := am (hbox); have GW175 := gs hg HB; have GE175 := GW175; replace HB := sb HB hb; clear hb hbox hg))
 (try simp only [Act.put, List.setIfInBounds_toArray, List.set_cons_zero, List.set_cons_succ])
 go_cut [19] (fun v19 wc => ∃ (kq : Nat) (x19_2 : Bool), v19 = .bool x19_2 ∧ Aside0 (deci_Make.j0 kq a0 a1 x19_2 = some (r1, r2, r3)) ∧ Aside0 (kq ≤ k) ∧ Aside0 (wc.heap[gb175]? = some (.cells #[.int .i64 0, .int .i64 0] 23 (0, 0))) ∧ Aside0 (Below w.heap.size w wc))
 case first =>
  have H := HC3.out
  clear HC3
  by_cases c5 : a1 < 0
  ·rw [if_pos c5] at H
   have c5b0 : decide (a1 < 0) = true := decide_eq_true c5
   clear c5
   (first | rw [c5b0] | (simp only [i64_w, i32_w]; rw [c5b0]) | skip)
   have H' := am H
   clear H
   go_wp2
   go_meet
   case rel => exact ⟨_, (true), sz, H', ⟨oz⟩, ⟨bk BK175.out⟩, ⟨bz HB.out⟩⟩
  rw [if_neg c5] at H
  have c5b0 : decide (a1 < 0) = false := decide_eq_false c5
  clear c5
  (first | rw [c5b0] | (simp only [i64_w, i32_w]; rw [c5b0]) | skip)
  by_cases c6 : a1 > 6
  ·rw [if_pos c6] at H
   have c6b0 : decide (6 < a1) = true := decide_eq_true c6
   clear c6
   have H' := am H
   clear H
   go_wp2
   go_meet
   case rel => exact ⟨_, (true), sz, H', ⟨oz⟩, ⟨bk BK175.out⟩, ⟨bz HB.out⟩⟩
  rw [if_neg c6] at H
  have c6b0 : decide (6 < a1) = false := decide_eq_false c6
  clear c6
  by_cases c7 : a0 > 999999999999
  ·rw [if_pos c7] at H
   have c7b0 : decide (999999999999 < a0) = true := decide_eq_true c7
   clear c7
   have H' := am H
   clear H
   go_wp2
   go_meet
   case rel => exact ⟨_, (true), sz, H', ⟨oz⟩, ⟨bk BK175.out⟩, ⟨bz HB.out⟩⟩
  rw [if_neg c7] at H
  have c7b0 : decide (999999999999 < a0) = false := decide_eq_false c7
  clear c7
  have H' := am H
  clear H
  go_wp2
  go_meet
  case rel => exact ⟨_, (decide (a0 < (-999999999999))), sz, H', ⟨oz⟩, ⟨bk BK175.out⟩, ⟨bz HB.out⟩⟩
 case rest =>
  clear HC3
  skip
  obtain ⟨kq, x19_2, rfl, HA, HJ2, BK175, HB⟩ := hcut
  cases kq with
  | zero => exact absurd HA.out (by simp [deci_Make.j0])
  | succ kj2 =>
   have H := HA.out
   clear HA
   simp only [deci_Make.j0] at H
   by_cases c8 : x19_2 = true
   ·subst c8
    replace H := ift H
    simp only [Option.some.injEq, Prod.mk.injEq] at H
    obtain ⟨rfl, rfl, rfl⟩ := H
    obtain ⟨Z9_0, Z9_1, F9_0, F9_1⟩ := cz2 BK175.out
    go_wp2
    refine bodyPost_ret (results_ct rfl _ _ gb175 23 #[.int .i64 0, .int .i64 0] (0, 0) _ rfl (bp BK175.out) Tryz.underlying23 rfl (by kernel_rfl)) rfl ?_
    exact ⟨az, bz HB.out⟩
   replace c8 := Bool.eq_false_iff.mpr c8
   subst c8
   replace H := iff_ H
   obtain ⟨ji10, hji10⟩ : ∃ j_ : Int, (mx a0 (wrap64 (-a0))) = j_ := ⟨_, rfl⟩
   replace H : ((deci_form_dec.f kj2 (IntKind.u64.wrap (ji10)) a1 (decide (a0 < 0))).bind fun bt176 => (some (bt176.1, bt176.2.1, bt176.2.2))) = some (r1, r2, r3) := by first | (rw [hji10] at H; exact H) | (simp only [hji10] at H ⊢; exact H)
   have hji10_ : (if a0 < (wrap64 (-a0)) then (wrap64 (-a0)) else a0) = ji10 := hji10
   replace H := obe3 H
   obtain ⟨t176, t177, t178, A11, H⟩ := H
   simp only [Option.some.injEq, Prod.mk.injEq] at H
   obtain ⟨rfl, rfl, rfl⟩ := H
   go_wp2_with (first | ((with_reducible refine gate_callee (f := 45) rfl ?_); refine goesL_ (some 30) rfl rfl Tryz.func45 (by kernel_rfl) rfl #[.agg #[.int .u64 (IntKind.u64.wrap (ji10)), .int .i64 a1], .bool (decide (a0 < 0))] rfl (by (try simp only [List.map_toArray, List.map_cons, List.map_nil]); first | done | (simp only [hji10]; rfl) | rfl | (simp only [List.length_drop, List.length_take]; rfl)) ?_; (with_reducible refine (deci_form_dec.calls kj2 (IntKind.u64.wrap (ji10)) a1 (decide (a0 < 0)) t176 t177 t178 _ A11.out).mono ?_); rintro e w12 ⟨rfl, hb⟩; refine ⟨_, rfl, ?_⟩; replace BK175 := kb BK175 hb; replace HB := sb HB hb; clear hb; obtain ⟨Z13_0, Z13_1, F13_0, F13_1⟩ := cz2 BK175.out))
   refine bodyPost_ret (results_ct rfl _ _ gb175 23 #[.int .i64 t176, .int .i64 t177] (0, 0) _ rfl (bp BK175.out) Tryz.underlying23 rfl (by kernel_rfl)) rfl ?_
   exact ⟨by first | rfl | (simp [errW_none, errW_some] <;> rfl) | (simp only [← hji10]; first | rfl | (simp [errW_none, errW_some] <;> rfl)) | (simp [*, errW_none, errW_some] <;> rfl), bz HB.out⟩
end Go.Proofs.YtgkemhgihbfmmaaGreatDoor.PA
end
section
namespace Go.Proofs.YtgkemhgihbfmmaaGreatDoor.PA
open Go.RowKit Go.Proofs.YtgkemhgihbfmmaaGreatDoorW.PrintWords Go.Proofs.YtgkemhgihbfmmaaGreatDoorW.PrintLast Go.Proofs.YtgkemhgihbfmmaaGreatDoorW.PrintMore
attribute [local go_sem] max2_int min2_int max_two min_two max_three min_three max_four min_four isSome_set str_gtr
set_option linter.unusedVariables false
set_option linter.unusedSimpArgs false
attribute [local go_sem high] eqA23
def deci_Sound.f (k : Nat) (a0_0 a0_1 : Int) : Option (Bool) := (deci_Make.f k a0_0 a0_1).bind fun bt180 => (if bt180.2.2 = 0 then (some (bt180.1 == a0_0 && (bt180.2.1 == a0_1))) else (some false))
theorem deci_Sound.mono : ∀ a0 a1 k, LeO (deci_Sound.f k a0 a1) (deci_Sound.f (k + 1) a0 a1) := by
 intro a0 a1 k
 unfold deci_Sound.f
 have q0 := @deci_Make.mono; exact lmo
set_option maxHeartbeats 8000000 in
set_option maxRecDepth 100000 in
theorem deci_Sound.calls (k : Nat) (a0_0 a0_1 : Int) (r : Bool) (w : World) (h : deci_Sound.f k a0_0 a0_1 = some r) :
  Calls Tryz.prog 70 #[.agg #[.int .i64 a0_0, .int .i64 a0_1]] w fun e w' => e = .returned (.bool r) ∧ Below w.heap.size w w' := by
 have hu23 := Tryz.underlying23
 have HB := am (Below.refl w.heap.size w)
 have H : ((deci_Make.f k a0_0 a0_1).bind fun bt180 => (if bt180.2.2 = 0 then (some (bt180.1 == a0_0 && (bt180.2.1 == a0_1))) else (some false))) = some r := h
 clear h
 replace H := obe3 H
 obtain ⟨t180, t181, t182, A2, H⟩ := H
 have HC3 := am H
 clear H
 go_enter Tryz.func70, Tryz.ntmps70
 go_upto_region 2 with (first | ((with_reducible refine gate_dst (N := 1) rfl ?_); refine bev (#[.int .i64 a0_0, .int .i64 a0_1]) 23 ?_; intro gb179 hg w4 hbox hb; have BK179 := am (hbox); have GW179 := gs hg HB; have GE179 := GW179; replace HB := sb HB hb; clear hb hbox hg; obtain ⟨Z5_0, Z5_1, F5_0, F5_1⟩ := cz2 BK179.out) | ((with_reducible refine gate_callee (f := 115) rfl ?_); refine gl_ (some 10) Tryz.func115 (by kernel_rfl) #[.int .i64 a0_0, .int .i64 a0_1] rfl ?_; (with_reducible refine (deci_Make.calls k a0_0 a0_1 t180 t181 t182 _ A2.out).mono ?_); rintro e w6 ⟨rfl, hb⟩; refine ⟨_, rfl, ?_⟩; replace BK179 := kb BK179 hb; replace HB := sb HB hb; clear hb) | ((with_reducible refine gate_dst (N := 3) rfl ?_); refine bev (#[.int .i64 0, .int .i64 0]) 23 ?_; intro gb183 hg w7 hbox hb; have BK183 := am (hbox); have GW183 := gs hg HB; have GE183 := GW183; replace HB := sb HB hb; have NB179_183 := na hg BK179; have NB183_179 := nb hg BK179; replace BK179 := kb BK179 hb; clear hb hbox hg; have hnb8 := NB183_179.out; have hnc8 := NB179_183.out; obtain ⟨Z9_0, Z9_1, F9_0, F9_1⟩ := cz2 BK183.out))
 (try simp only [Act.put, List.setIfInBounds_toArray, List.set_cons_zero, List.set_cons_succ])
 have H := HC3.out
 clear HC3
 clear Z5_0 Z5_1 F5_0 F5_1 Z9_0 Z9_1 F9_0 F9_1
 by_cases c10 : t182 = 0
 ·replace H := ipe c10 H
  obtain ⟨H, c10b0, c10b1⟩ := H
  clear c10
  (first | rw [c10b0] | (simp only [i64_w, i32_w]; rw [c10b0]) | skip)
  obtain rfl := Option.some.inj H
  have hnb11 := NB183_179.out
  have hnc11 := NB179_183.out
  obtain ⟨Z12_0, Z12_1, F12_0, F12_1⟩ := cz2 BK183.out
  obtain ⟨Z13_0, Z13_1, F13_0, F13_1⟩ := cz2 BK179.out
  go_wp2
  go_ret
  exact ⟨az, bz HB.out⟩
 replace H := ine c10 H
 obtain ⟨H, c10b0, c10b1⟩ := H
 (first | rw [c10b0] | (simp only [i64_w, i32_w]; rw [c10b0]) | skip)
 obtain rfl := Option.some.inj H
 go_wp2
 go_ret
 exact ⟨az, bz HB.out⟩
end Go.Proofs.YtgkemhgihbfmmaaGreatDoor.PA
end
section
namespace Go.Proofs.YtgkemhgihbfmmaaGreatDoor.PA
open Go.RowKit Go.Proofs.YtgkemhgihbfmmaaGreatDoorW.PrintWords Go.Proofs.YtgkemhgihbfmmaaGreatDoorW.PrintLast Go.Proofs.YtgkemhgihbfmmaaGreatDoorW.PrintMore
attribute [local go_sem] max2_int min2_int max_two min_two max_three min_three max_four min_four isSome_set str_gtr
set_option linter.unusedVariables false
set_option linter.unusedSimpArgs false
attribute [local go_sem high] eqA25
def value_Sound.f (k : Nat) (a0_0 a0_1 a0_2 : Int) (a0_3 : ByteArray) (a0_4 : Int) : Option (Bool) := if a0_0 = 0 then (some ((a0_1 == 0 && (a0_2 == 0)) && (a0_3.toList == ([] : List UInt8) && (a0_4 == 0)))) else (if a0_0 = 1 then (if (a0_3.toList == ([] : List UInt8) && (a0_4 == 0)) = true then ((deci_Sound.f k a0_1 a0_2).bind fun t186 => (some t186)) else (some false)) else (if a0_0 = 2 then (if ((a0_1 == 0 && (a0_2 == 0)) && (a0_4 == 0)) = true then (if (a0_3.size : Int) ≤ 256 then ((chars_Good.f a0_3).bind fun t187 => (some t187)) else (some false)) else (some false)) else (if a0_0 = 3 then (some ((a0_1 == 0 && (a0_2 == 0)) && (a0_3.toList == ([] : List UInt8) && (a0_4 == (Go.bits .and .i64 a0_4 1))))) else (if a0_0 = 4 then (some ((a0_1 == 0 && (a0_2 == 0)) && (a0_3.toList == ([] : List UInt8) && (a0_4 == (mx 0 (mn a0_4 3652058)))))) else (some false)))))
theorem value_Sound.mono : ∀ a0 a1 a2 a3 a4 k, LeO (value_Sound.f k a0 a1 a2 a3 a4) (value_Sound.f (k + 1) a0 a1 a2 a3 a4) := by
 intro a0 a1 a2 a3 a4 k
 unfold value_Sound.f
 have q0 := @deci_Sound.mono; exact lmo
set_option maxHeartbeats 8000000 in
set_option maxRecDepth 100000 in
theorem value_Sound.calls (k : Nat) (a0_0 a0_1 a0_2 : Int) (a0_3 : ByteArray) (a0_4 : Int) (r : Bool) (w : World) (hT : Tabs w) (h : value_Sound.f k a0_0 a0_1 a0_2 a0_3 a0_4 = some r) :
  Calls Tryz.prog 38 #[.agg #[.int .i64 a0_0, .int .i64 a0_1, .int .i64 a0_2, .string a0_3, .int .i64 a0_4]] w fun e w' => e = .returned (.bool r) ∧ Below w.heap.size w w' := by
 have hu25 := Tryz.underlying25
 have hu23 := Tryz.underlying23
 have HT := am hT
 clear hT
 have HB := am (Below.refl w.heap.size w)
 have H : (if a0_0 = 0 then (some ((a0_1 == 0 && (a0_2 == 0)) && (a0_3.toList == ([] : List UInt8) && (a0_4 == 0)))) else (if a0_0 = 1 then (if (a0_3.toList == ([] : List UInt8) && (a0_4 == 0)) = true then ((deci_Sound.f k a0_1 a0_2).bind fun t186 => (some t186)) else (some false)) else (if a0_0 = 2 then (if ((a0_1 == 0 && (a0_2 == 0)) && (a0_4 == 0)) = true then (if (a0_3.size : Int) ≤ 256 then ((chars_Good.f a0_3).bind fun t187 => (some t187)) else (some false)) else (some false)) else (if a0_0 = 3 then (some ((a0_1 == 0 && (a0_2 == 0)) && (a0_3.toList == ([] : List UInt8) && (a0_4 == (Go.bits .and .i64 a0_4 1))))) else (if a0_0 = 4 then (some ((a0_1 == 0 && (a0_2 == 0)) && (a0_3.toList == ([] : List UInt8) && (a0_4 == (mx 0 (mn a0_4 3652058)))))) else (some false)))))) = some r := h
 clear h
 by_cases c2 : a0_0 = 0
 ·replace H := ipe c2 H
  obtain ⟨H, c2b0, c2b1⟩ := H
  clear c2
  obtain rfl := Option.some.inj H
  go_enter Tryz.func38, Tryz.ntmps38
  go_wp2_with (first | ((with_reducible refine gate_dst (N := 1) rfl ?_); (try (refine gate_guard (by rfl) ?_; dsimp only)); refine bev (#[.int .i64 a0_0, .int .i64 a0_1, .int .i64 a0_2, .string a0_3, .int .i64 a0_4]) 25 ?_; intro gb184 hg w3 hbox hb; have BK184 := am (hbox); have GW184 := gs hg HB; have GE184 := GW184; replace HB := sb HB hb; clear hb hbox hg; obtain ⟨Z4_0, Z4_1, Z4_2, Z4_3, Z4_4, F4_0, F4_1, F4_2, F4_3, F4_4⟩ := cz5 BK184.out) | ((with_reducible refine gate_dst (N := 3) rfl ?_); (try (refine gate_guard (by rfl) ?_; dsimp only)); refine bev (#[.int .i64 0, .int .i64 0, .int .i64 0, .string (⟨#[]⟩ : ByteArray), .int .i64 0]) 25 ?_; intro gb185 hg w5 hbox hb; have BK185 := am (hbox); have GW185 := gs hg HB; have GE185 := GW185; replace HB := sb HB hb; have NB184_185 := na hg BK184; have NB185_184 := nb hg BK184; replace BK184 := kb BK184 hb; clear hb hbox hg; have hnb6 := NB185_184.out; have hnc6 := NB184_185.out; obtain ⟨Z7_0, Z7_1, Z7_2, Z7_3, Z7_4, F7_0, F7_1, F7_2, F7_3, F7_4⟩ := cz5 BK185.out; obtain ⟨Z8_0, Z8_1, Z8_2, Z8_3, Z8_4, F8_0, F8_1, F8_2, F8_3, F8_4⟩ := cz5 BK184.out))
  go_ret
  exact ⟨az, bz HB.out⟩
 replace H := ine c2 H
 obtain ⟨H, c2b0, c2b1⟩ := H
 by_cases c9 : a0_0 = 1
 ·replace H := ipe c9 H
  obtain ⟨H, c9b0, c9b1⟩ := H
  clear c9
  by_cases c10 : (a0_3.toList == ([] : List UInt8) && (a0_4 == 0)) = true
  ·rw [if_pos c10] at H
   have c10b0 : (a0_3.toList == ([] : List UInt8) && (a0_4 == 0)) = true := c10
   (try (have c10be : (a0_3.toList.isEmpty && (a0_4 == 0)) = true := by (try simp only [isEmpty_beq]); exact c10b0))
   (try (have c10b1 : decide (a0_3.toList = ([] : List UInt8) && (a0_4 == 0)) = true := by simpa using c10))
   (try (have c10b2 : (a0_3.toList == ([] : List UInt8) && (a0_4 == 0)) = true := by simpa using c10))
   clear c10
   replace H := obe H
   obtain ⟨t186, A11, H⟩ := H
   obtain rfl := Option.some.inj H
   go_enter Tryz.func38, Tryz.ntmps38
   go_wp2_with (first | ((with_reducible refine gate_dst (N := 1) rfl ?_); (try (refine gate_guard (by rfl) ?_; dsimp only)); refine bev (#[.int .i64 a0_0, .int .i64 a0_1, .int .i64 a0_2, .string a0_3, .int .i64 a0_4]) 25 ?_; intro gb184 hg w12 hbox hb; have BK184 := am (hbox); have GW184 := gs hg HB; have GE184 := GW184; replace HB := sb HB hb; clear hb hbox hg; obtain ⟨Z13_0, Z13_1, Z13_2, Z13_3, Z13_4, F13_0, F13_1, F13_2, F13_3, F13_4⟩ := cz5 BK184.out) | ((with_reducible refine gate_dst (N := 3) rfl ?_); (try (refine gate_guard (by rfl) ?_; dsimp only)); refine bev (#[.int .i64 0, .int .i64 0, .int .i64 0, .string (⟨#[]⟩ : ByteArray), .int .i64 0]) 25 ?_; intro gb185 hg w14 hbox hb; have BK185 := am (hbox); have GW185 := gs hg HB; have GE185 := GW185; replace HB := sb HB hb; have NB184_185 := na hg BK184; have NB185_184 := nb hg BK184; replace BK184 := kb BK184 hb; clear hb hbox hg; have hnb15 := NB185_184.out; have hnc15 := NB184_185.out; obtain ⟨Z16_0, Z16_1, Z16_2, Z16_3, Z16_4, F16_0, F16_1, F16_2, F16_3, F16_4⟩ := cz5 BK185.out; obtain ⟨Z17_0, Z17_1, Z17_2, Z17_3, Z17_4, F17_0, F17_1, F17_2, F17_3, F17_4⟩ := cz5 BK184.out) | (go_at_call 70; (with_reducible refine (deci_Sound.calls k a0_1 a0_2 t186 _ A11.out).mono ?_); rintro e w18 ⟨rfl, hb⟩; replace BK184 := am (blk_below (g := gb184) (o := .cells #[.int .i64 a0_0, .int .i64 a0_1, .int .i64 a0_2, .string a0_3, .int .i64 a0_4] 25 (0, 0)) (bp BK184.out) hb); replace BK185 := am (blk_below (g := gb185) (o := .cells #[.int .i64 a0_0, .int .i64 a0_1, .int .i64 a0_2, .string (⟨#[]⟩ : ByteArray), .int .i64 0] 25 (0, 0)) (by (with_reducible repeat (first | refine blk_drewN ?_ _ | refine blk_drew ?_ | refine blk_alloc ?_ _)); refine blk_put (cs := #[.int .i64 a0_0, .int .i64 a0_1, .int .i64 0, .string (⟨#[]⟩ : ByteArray), .int .i64 0]) ?_ 2 _ rfl; (with_reducible repeat (first | refine blk_drewN ?_ _ | refine blk_drew ?_ | refine blk_alloc ?_ _)); refine blk_put (cs := #[.int .i64 a0_0, .int .i64 0, .int .i64 0, .string (⟨#[]⟩ : ByteArray), .int .i64 0]) ?_ 1 _ rfl; (with_reducible repeat (first | refine blk_drewN ?_ _ | refine blk_drew ?_ | refine blk_alloc ?_ _)); refine blk_put (cs := #[.int .i64 a0_0, .int .i64 0, .int .i64 0, .string (⟨#[]⟩ : ByteArray), .int .i64 0]) ?_ 4 _ rfl; (with_reducible repeat (first | refine blk_drewN ?_ _ | refine blk_drew ?_ | refine blk_alloc ?_ _)); refine blk_put (cs := #[.int .i64 a0_0, .int .i64 0, .int .i64 0, .string (⟨#[]⟩ : ByteArray), .int .i64 0]) ?_ 3 _ rfl; (with_reducible repeat (first | refine blk_drewN ?_ _ | refine blk_drew ?_ | refine blk_alloc ?_ _)); refine blk_put (cs := #[.int .i64 a0_0, .int .i64 0, .int .i64 0, .string (⟨#[]⟩ : ByteArray), .int .i64 0]) ?_ 2 _ rfl; (with_reducible repeat (first | refine blk_drewN ?_ _ | refine blk_drew ?_ | refine blk_alloc ?_ _)); refine blk_put (cs := #[.int .i64 a0_0, .int .i64 0, .int .i64 0, .string (⟨#[]⟩ : ByteArray), .int .i64 0]) ?_ 1 _ rfl; (with_reducible repeat (first | refine blk_drewN ?_ _ | refine blk_drew ?_ | refine blk_alloc ?_ _)); refine blk_put (cs := #[.int .i64 0, .int .i64 0, .int .i64 0, .string (⟨#[]⟩ : ByteArray), .int .i64 0]) ?_ 0 _ rfl; (with_reducible repeat (first | refine blk_drewN ?_ _ | refine blk_drew ?_ | refine blk_alloc ?_ _)); exact BK185.out) hb); replace HB := sb HB hb; clear hb))
   go_ret
   exact ⟨az, bz HB.out⟩
  rw [if_neg c10] at H
  have c10b0 : (a0_3.toList == ([] : List UInt8) && (a0_4 == 0)) = false := by simpa using c10
  (try (have c10be : (a0_3.toList.isEmpty && (a0_4 == 0)) = false := by (try simp only [isEmpty_beq]); exact c10b0))
  (try (have c10b1 : decide (a0_3.toList = ([] : List UInt8) && (a0_4 == 0)) = false := by simpa using c10))
  (try (have c10b2 : (a0_3.toList == ([] : List UInt8) && (a0_4 == 0)) = false := by simpa using c10))
  (try (have c10b3 : ¬ (a0_3.toList = ([] : List UInt8) && (a0_4 == 0)) := by simpa using c10))
  clear c10
  obtain rfl := Option.some.inj H
  go_enter Tryz.func38, Tryz.ntmps38
  go_wp2_with (first | ((with_reducible refine gate_dst (N := 1) rfl ?_); (try (refine gate_guard (by rfl) ?_; dsimp only)); refine bev (#[.int .i64 a0_0, .int .i64 a0_1, .int .i64 a0_2, .string a0_3, .int .i64 a0_4]) 25 ?_; intro gb184 hg w19 hbox hb; have BK184 := am (hbox); have GW184 := gs hg HB; have GE184 := GW184; replace HB := sb HB hb; clear hb hbox hg; obtain ⟨Z20_0, Z20_1, Z20_2, Z20_3, Z20_4, F20_0, F20_1, F20_2, F20_3, F20_4⟩ := cz5 BK184.out) | ((with_reducible refine gate_dst (N := 3) rfl ?_); (try (refine gate_guard (by rfl) ?_; dsimp only)); refine bev (#[.int .i64 0, .int .i64 0, .int .i64 0, .string (⟨#[]⟩ : ByteArray), .int .i64 0]) 25 ?_; intro gb185 hg w21 hbox hb; have BK185 := am (hbox); have GW185 := gs hg HB; have GE185 := GW185; replace HB := sb HB hb; have NB184_185 := na hg BK184; have NB185_184 := nb hg BK184; replace BK184 := kb BK184 hb; clear hb hbox hg; have hnb22 := NB185_184.out; have hnc22 := NB184_185.out; obtain ⟨Z23_0, Z23_1, Z23_2, Z23_3, Z23_4, F23_0, F23_1, F23_2, F23_3, F23_4⟩ := cz5 BK185.out; obtain ⟨Z24_0, Z24_1, Z24_2, Z24_3, Z24_4, F24_0, F24_1, F24_2, F24_3, F24_4⟩ := cz5 BK184.out))
  go_ret
  exact ⟨az, bz HB.out⟩
 replace H := ine c9 H
 obtain ⟨H, c9b0, c9b1⟩ := H
 by_cases c25 : a0_0 = 2
 ·replace H := ipe c25 H
  obtain ⟨H, c25b0, c25b1⟩ := H
  clear c25
  by_cases c26 : ((a0_1 == 0 && (a0_2 == 0)) && (a0_4 == 0)) = true
  ·rw [if_pos c26] at H
   have c26b0 : ((a0_1 == 0 && (a0_2 == 0)) && (a0_4 == 0)) = true := c26
   clear c26
   by_cases c27 : (a0_3.size : Int) ≤ 256
   ·rw [if_pos c27] at H
    have c27b0 : decide ((a0_3.size : Int) ≤ 256) = true := decide_eq_true c27
    have c27b1 : decide (a0_3.size ≤ 256) = true := decide_eq_true (by omega)
    clear c27
    replace H := obe H
    obtain ⟨t187, A28, H⟩ := H
    obtain rfl := Option.some.inj H
    go_enter Tryz.func38, Tryz.ntmps38
    go_wp2_with (first | ((with_reducible refine gate_dst (N := 1) rfl ?_); (try (refine gate_guard (by rfl) ?_; dsimp only)); refine bev (#[.int .i64 a0_0, .int .i64 a0_1, .int .i64 a0_2, .string a0_3, .int .i64 a0_4]) 25 ?_; intro gb184 hg w29 hbox hb; have BK184 := am (hbox); have GW184 := gs hg HB; have GE184 := GW184; replace HB := sb HB hb; clear hb hbox hg; obtain ⟨Z30_0, Z30_1, Z30_2, Z30_3, Z30_4, F30_0, F30_1, F30_2, F30_3, F30_4⟩ := cz5 BK184.out) | ((with_reducible refine gate_dst (N := 3) rfl ?_); (try (refine gate_guard (by rfl) ?_; dsimp only)); refine bev (#[.int .i64 0, .int .i64 0, .int .i64 0, .string (⟨#[]⟩ : ByteArray), .int .i64 0]) 25 ?_; intro gb185 hg w31 hbox hb; have BK185 := am (hbox); have GW185 := gs hg HB; have GE185 := GW185; replace HB := sb HB hb; have NB184_185 := na hg BK184; have NB185_184 := nb hg BK184; replace BK184 := kb BK184 hb; clear hb hbox hg; have hnb32 := NB185_184.out; have hnc32 := NB184_185.out; obtain ⟨Z33_0, Z33_1, Z33_2, Z33_3, Z33_4, F33_0, F33_1, F33_2, F33_3, F33_4⟩ := cz5 BK185.out; obtain ⟨Z34_0, Z34_1, Z34_2, Z34_3, Z34_4, F34_0, F34_1, F34_2, F34_3, F34_4⟩ := cz5 BK184.out) | (go_at_call 71; (with_reducible refine (chars_Good.calls a0_3 t187 _ ?side1 A28.out).mono ?_); (case side1 => exact tabs_of HT.out (bz HB.out)); rintro e w35 ⟨rfl, hb⟩; replace BK184 := am (blk_below (g := gb184) (o := .cells #[.int .i64 a0_0, .int .i64 a0_1, .int .i64 a0_2, .string a0_3, .int .i64 a0_4] 25 (0, 0)) (bp BK184.out) hb); replace BK185 := am (blk_below (g := gb185) (o := .cells #[.int .i64 a0_0, .int .i64 0, .int .i64 0, .string a0_3, .int .i64 0] 25 (0, 0)) (by (with_reducible repeat (first | refine blk_drewN ?_ _ | refine blk_drew ?_ | refine blk_alloc ?_ _)); refine blk_put (cs := #[.int .i64 a0_0, .int .i64 0, .int .i64 0, .string (⟨#[]⟩ : ByteArray), .int .i64 0]) ?_ 3 _ rfl; (with_reducible repeat (first | refine blk_drewN ?_ _ | refine blk_drew ?_ | refine blk_alloc ?_ _)); refine blk_put (cs := #[.int .i64 a0_0, .int .i64 0, .int .i64 0, .string (⟨#[]⟩ : ByteArray), .int .i64 0]) ?_ 4 _ rfl; (with_reducible repeat (first | refine blk_drewN ?_ _ | refine blk_drew ?_ | refine blk_alloc ?_ _)); refine blk_put (cs := #[.int .i64 a0_0, .int .i64 0, .int .i64 0, .string (⟨#[]⟩ : ByteArray), .int .i64 0]) ?_ 3 _ rfl; (with_reducible repeat (first | refine blk_drewN ?_ _ | refine blk_drew ?_ | refine blk_alloc ?_ _)); refine blk_put (cs := #[.int .i64 a0_0, .int .i64 0, .int .i64 0, .string (⟨#[]⟩ : ByteArray), .int .i64 0]) ?_ 2 _ rfl; (with_reducible repeat (first | refine blk_drewN ?_ _ | refine blk_drew ?_ | refine blk_alloc ?_ _)); refine blk_put (cs := #[.int .i64 a0_0, .int .i64 0, .int .i64 0, .string (⟨#[]⟩ : ByteArray), .int .i64 0]) ?_ 1 _ rfl; (with_reducible repeat (first | refine blk_drewN ?_ _ | refine blk_drew ?_ | refine blk_alloc ?_ _)); refine blk_put (cs := #[.int .i64 0, .int .i64 0, .int .i64 0, .string (⟨#[]⟩ : ByteArray), .int .i64 0]) ?_ 0 _ rfl; (with_reducible repeat (first | refine blk_drewN ?_ _ | refine blk_drew ?_ | refine blk_alloc ?_ _)); exact BK185.out) hb); replace HB := sb HB hb; clear hb))
    go_ret
    exact ⟨az, bz HB.out⟩
   rw [if_neg c27] at H
   have c27b0 : decide ((a0_3.size : Int) ≤ 256) = false := decide_eq_false c27
   have c27b1 : decide (a0_3.size ≤ 256) = false := decide_eq_false (by omega)
   clear c27
   obtain rfl := Option.some.inj H
   go_enter Tryz.func38, Tryz.ntmps38
   go_wp2_with (first | ((with_reducible refine gate_dst (N := 1) rfl ?_); (try (refine gate_guard (by rfl) ?_; dsimp only)); refine bev (#[.int .i64 a0_0, .int .i64 a0_1, .int .i64 a0_2, .string a0_3, .int .i64 a0_4]) 25 ?_; intro gb184 hg w36 hbox hb; have BK184 := am (hbox); have GW184 := gs hg HB; have GE184 := GW184; replace HB := sb HB hb; clear hb hbox hg; obtain ⟨Z37_0, Z37_1, Z37_2, Z37_3, Z37_4, F37_0, F37_1, F37_2, F37_3, F37_4⟩ := cz5 BK184.out) | ((with_reducible refine gate_dst (N := 3) rfl ?_); (try (refine gate_guard (by rfl) ?_; dsimp only)); refine bev (#[.int .i64 0, .int .i64 0, .int .i64 0, .string (⟨#[]⟩ : ByteArray), .int .i64 0]) 25 ?_; intro gb185 hg w38 hbox hb; have BK185 := am (hbox); have GW185 := gs hg HB; have GE185 := GW185; replace HB := sb HB hb; have NB184_185 := na hg BK184; have NB185_184 := nb hg BK184; replace BK184 := kb BK184 hb; clear hb hbox hg; have hnb39 := NB185_184.out; have hnc39 := NB184_185.out; obtain ⟨Z40_0, Z40_1, Z40_2, Z40_3, Z40_4, F40_0, F40_1, F40_2, F40_3, F40_4⟩ := cz5 BK185.out; obtain ⟨Z41_0, Z41_1, Z41_2, Z41_3, Z41_4, F41_0, F41_1, F41_2, F41_3, F41_4⟩ := cz5 BK184.out))
   go_ret
   exact ⟨az, bz HB.out⟩
  rw [if_neg c26] at H
  have c26b0 : ((a0_1 == 0 && (a0_2 == 0)) && (a0_4 == 0)) = false := by simpa using c26
  clear c26
  obtain rfl := Option.some.inj H
  go_enter Tryz.func38, Tryz.ntmps38
  go_wp2_with (first | ((with_reducible refine gate_dst (N := 1) rfl ?_); (try (refine gate_guard (by rfl) ?_; dsimp only)); refine bev (#[.int .i64 a0_0, .int .i64 a0_1, .int .i64 a0_2, .string a0_3, .int .i64 a0_4]) 25 ?_; intro gb184 hg w42 hbox hb; have BK184 := am (hbox); have GW184 := gs hg HB; have GE184 := GW184; replace HB := sb HB hb; clear hb hbox hg; obtain ⟨Z43_0, Z43_1, Z43_2, Z43_3, Z43_4, F43_0, F43_1, F43_2, F43_3, F43_4⟩ := cz5 BK184.out) | ((with_reducible refine gate_dst (N := 3) rfl ?_); (try (refine gate_guard (by rfl) ?_; dsimp only)); refine bev (#[.int .i64 0, .int .i64 0, .int .i64 0, .string (⟨#[]⟩ : ByteArray), .int .i64 0]) 25 ?_; intro gb185 hg w44 hbox hb; have BK185 := am (hbox); have GW185 := gs hg HB; have GE185 := GW185; replace HB := sb HB hb; have NB184_185 := na hg BK184; have NB185_184 := nb hg BK184; replace BK184 := kb BK184 hb; clear hb hbox hg; have hnb45 := NB185_184.out; have hnc45 := NB184_185.out; obtain ⟨Z46_0, Z46_1, Z46_2, Z46_3, Z46_4, F46_0, F46_1, F46_2, F46_3, F46_4⟩ := cz5 BK185.out; obtain ⟨Z47_0, Z47_1, Z47_2, Z47_3, Z47_4, F47_0, F47_1, F47_2, F47_3, F47_4⟩ := cz5 BK184.out))
  go_ret
  exact ⟨az, bz HB.out⟩
 replace H := ine c25 H
 obtain ⟨H, c25b0, c25b1⟩ := H
 by_cases c48 : a0_0 = 3
 ·replace H := ipe c48 H
  obtain ⟨H, c48b0, c48b1⟩ := H
  clear c48
  obtain rfl := Option.some.inj H
  go_enter Tryz.func38, Tryz.ntmps38
  go_wp2_with (first | ((with_reducible refine gate_dst (N := 1) rfl ?_); (try (refine gate_guard (by rfl) ?_; dsimp only)); refine bev (#[.int .i64 a0_0, .int .i64 a0_1, .int .i64 a0_2, .string a0_3, .int .i64 a0_4]) 25 ?_; intro gb184 hg w49 hbox hb; have BK184 := am (hbox); have GW184 := gs hg HB; have GE184 := GW184; replace HB := sb HB hb; clear hb hbox hg; obtain ⟨Z50_0, Z50_1, Z50_2, Z50_3, Z50_4, F50_0, F50_1, F50_2, F50_3, F50_4⟩ := cz5 BK184.out) | ((with_reducible refine gate_dst (N := 3) rfl ?_); (try (refine gate_guard (by rfl) ?_; dsimp only)); refine bev (#[.int .i64 0, .int .i64 0, .int .i64 0, .string (⟨#[]⟩ : ByteArray), .int .i64 0]) 25 ?_; intro gb185 hg w51 hbox hb; have BK185 := am (hbox); have GW185 := gs hg HB; have GE185 := GW185; replace HB := sb HB hb; have NB184_185 := na hg BK184; have NB185_184 := nb hg BK184; replace BK184 := kb BK184 hb; clear hb hbox hg; have hnb52 := NB185_184.out; have hnc52 := NB184_185.out; obtain ⟨Z53_0, Z53_1, Z53_2, Z53_3, Z53_4, F53_0, F53_1, F53_2, F53_3, F53_4⟩ := cz5 BK185.out; obtain ⟨Z54_0, Z54_1, Z54_2, Z54_3, Z54_4, F54_0, F54_1, F54_2, F54_3, F54_4⟩ := cz5 BK184.out))
  go_ret
  exact ⟨az, bz HB.out⟩
 replace H := ine c48 H
 obtain ⟨H, c48b0, c48b1⟩ := H
 by_cases c55 : a0_0 = 4
 ·replace H := ipe c55 H
  obtain ⟨H, c55b0, c55b1⟩ := H
  clear c55
  obtain ⟨ji56, hji56⟩ : ∃ j_ : Int, (mn a0_4 3652058) = j_ := ⟨_, rfl⟩
  replace H : (some ((a0_1 == 0 && (a0_2 == 0)) && (a0_3.toList == ([] : List UInt8) && (a0_4 == (mx 0 (ji56)))))) = some r := by first | (rw [hji56] at H; exact H) | (simp only [hji56] at H ⊢; exact H)
  (try (have hji56h : ji56 ≤ 3652058 := by (rw [← hji56]; unfold mn; (repeat' split) <;> omega)))
  (try (have hji56g : ji56 ≤ 64 := by omega))
  have hji56_ : (if 3652058 < a0_4 then 3652058 else a0_4) = ji56 := hji56
  obtain ⟨ji57, hji57⟩ : ∃ j_ : Int, (mx 0 (ji56)) = j_ := ⟨_, rfl⟩
  replace H : (some ((a0_1 == 0 && (a0_2 == 0)) && (a0_3.toList == ([] : List UInt8) && (a0_4 == (ji57))))) = some r := by first | (rw [hji57] at H; exact H) | (simp only [hji57] at H ⊢; exact H)
  have hji57_ : (if 0 < (ji56) then (ji56) else 0) = ji57 := hji57
  obtain rfl := Option.some.inj H
  go_enter Tryz.func38, Tryz.ntmps38
  go_wp2_with (first | ((with_reducible refine gate_dst (N := 1) rfl ?_); (try (refine gate_guard (by rfl) ?_; dsimp only)); refine bev (#[.int .i64 a0_0, .int .i64 a0_1, .int .i64 a0_2, .string a0_3, .int .i64 a0_4]) 25 ?_; intro gb184 hg w58 hbox hb; have BK184 := am (hbox); have GW184 := gs hg HB; have GE184 := GW184; replace HB := sb HB hb; clear hb hbox hg; obtain ⟨Z59_0, Z59_1, Z59_2, Z59_3, Z59_4, F59_0, F59_1, F59_2, F59_3, F59_4⟩ := cz5 BK184.out) | ((with_reducible refine gate_dst (N := 3) rfl ?_); (try (refine gate_guard (by rfl) ?_; dsimp only)); refine bev (#[.int .i64 0, .int .i64 0, .int .i64 0, .string (⟨#[]⟩ : ByteArray), .int .i64 0]) 25 ?_; intro gb185 hg w60 hbox hb; have BK185 := am (hbox); have GW185 := gs hg HB; have GE185 := GW185; replace HB := sb HB hb; have NB184_185 := na hg BK184; have NB185_184 := nb hg BK184; replace BK184 := kb BK184 hb; clear hb hbox hg; have hnb61 := NB185_184.out; have hnc61 := NB184_185.out; obtain ⟨Z62_0, Z62_1, Z62_2, Z62_3, Z62_4, F62_0, F62_1, F62_2, F62_3, F62_4⟩ := cz5 BK185.out; obtain ⟨Z63_0, Z63_1, Z63_2, Z63_3, Z63_4, F63_0, F63_1, F63_2, F63_3, F63_4⟩ := cz5 BK184.out))
  go_ret
  exact ⟨by first | rfl | (simp [errW_none, errW_some] <;> rfl) | (simp only [← hji56, ← hji57]; first | rfl | (simp [errW_none, errW_some] <;> rfl)) | (simp [*, errW_none, errW_some] <;> rfl), bz HB.out⟩
 replace H := ine c55 H
 obtain ⟨H, c55b0, c55b1⟩ := H
 obtain rfl := Option.some.inj H
 go_enter Tryz.func38, Tryz.ntmps38
 go_wp2_with (first | ((with_reducible refine gate_dst (N := 1) rfl ?_); (try (refine gate_guard (by rfl) ?_; dsimp only)); refine bev (#[.int .i64 a0_0, .int .i64 a0_1, .int .i64 a0_2, .string a0_3, .int .i64 a0_4]) 25 ?_; intro gb184 hg w64 hbox hb; have BK184 := am (hbox); have GW184 := gs hg HB; have GE184 := GW184; replace HB := sb HB hb; clear hb hbox hg; obtain ⟨Z65_0, Z65_1, Z65_2, Z65_3, Z65_4, F65_0, F65_1, F65_2, F65_3, F65_4⟩ := cz5 BK184.out) | ((with_reducible refine gate_dst (N := 3) rfl ?_); (try (refine gate_guard (by rfl) ?_; dsimp only)); refine bev (#[.int .i64 0, .int .i64 0, .int .i64 0, .string (⟨#[]⟩ : ByteArray), .int .i64 0]) 25 ?_; intro gb185 hg w66 hbox hb; have BK185 := am (hbox); have GW185 := gs hg HB; have GE185 := GW185; replace HB := sb HB hb; have NB184_185 := na hg BK184; have NB185_184 := nb hg BK184; replace BK184 := kb BK184 hb; clear hb hbox hg; have hnb67 := NB185_184.out; have hnc67 := NB184_185.out; obtain ⟨Z68_0, Z68_1, Z68_2, Z68_3, Z68_4, F68_0, F68_1, F68_2, F68_3, F68_4⟩ := cz5 BK185.out; obtain ⟨Z69_0, Z69_1, Z69_2, Z69_3, Z69_4, F69_0, F69_1, F69_2, F69_3, F69_4⟩ := cz5 BK184.out))
 go_ret
 exact ⟨az, bz HB.out⟩
end Go.Proofs.YtgkemhgihbfmmaaGreatDoor.PA
end
section
namespace Go.Proofs.YtgkemhgihbfmmaaGreatDoor.PA
open Go.RowKit Go.Proofs.YtgkemhgihbfmmaaGreatDoorW.PrintWords Go.Proofs.YtgkemhgihbfmmaaGreatDoorW.PrintLast Go.Proofs.YtgkemhgihbfmmaaGreatDoorW.PrintMore
attribute [local go_sem] max2_int min2_int max_two min_two max_three min_three max_four min_four isSome_set str_gtr
set_option linter.unusedVariables false
set_option linter.unusedSimpArgs false
mutual
def expr_kids.j0 : Nat → Int → Int → Bool → Option (Int)
 | 0, _, _, _ => none
 | k + 1, x0, x3, x4 => if x4 = true then (some 0) else (if x3 = 3 then (expr_kids.j1 k x0 x3 (x3 == 3)) else (expr_kids.j1 k x0 x3 (x3 == 16)))
def expr_kids.j1 : Nat → Int → Int → Bool → Option (Int)
 | 0, _, _, _ => none
 | k + 1, x0, x3, x7 => if x7 = true then (some 1) else (if x3 = 17 then (some 3) else (if x0 ≥ 4 then (if x0 ≤ 15 then (some 2) else (some (-1))) else (some (-1))))
end
def expr_kids.f (k : Nat) (a0 : Int) : Option (Int) := if a0 = 1 then (expr_kids.j0 k a0 a0 (a0 == 1)) else (expr_kids.j0 k a0 a0 (a0 == 2))
theorem expr_kids.mono_l : ∀ k, (∀ y0 y1 y2, LeO (expr_kids.j0 k y0 y1 y2) (expr_kids.j0 (k + 1) y0 y1 y2)) ∧ (∀ y0 y1 y2, LeO (expr_kids.j1 k y0 y1 y2) (expr_kids.j1 (k + 1) y0 y1 y2))
 | 0 => ⟨fun _ _ _ r h => by simp [expr_kids.j0] at h, fun _ _ _ r h => by simp [expr_kids.j1] at h⟩
 | k + 1 => by
  obtain ⟨ih0, ih1⟩ := expr_kids.mono_l k
  refine ⟨?_, ?_⟩
  ·intro y0 y1 y2
   unfold expr_kids.j0
   exact lmo
  intro y0 y1 y2
  unfold expr_kids.j1
  exact lmo
theorem expr_kids.mono : ∀ a0 k, LeO (expr_kids.f k a0) (expr_kids.f (k + 1) a0) := by
 intro a0 k
 obtain ⟨ih0, ih1⟩ := expr_kids.mono_l k
 unfold expr_kids.f
 exact lmo
set_option maxHeartbeats 8000000 in
set_option maxRecDepth 100000 in
theorem expr_kids.calls (k : Nat) (a0 r : Int) (w : World) (h : expr_kids.f k a0 = some r) :
  Calls Tryz.prog 111 #[.int .i64 a0] w fun e w' => e = .returned (.int .i64 r) ∧ Drawn0 w w' := by
 have H : (if a0 = 1 then (expr_kids.j0 k a0 a0 (a0 == 1)) else (expr_kids.j0 k a0 a0 (a0 == 2))) = some r := h
 clear h
 have HC2 := am H
 clear H
 go_enter Tryz.func111, Tryz.ntmps111
 go_upto_if 4 with (fail)
 go_cut [4] (fun v4 wc => ∃ (kq : Nat) (x4_1 : Bool), v4 = .bool x4_1 ∧ Aside0 (expr_kids.j0 kq a0 a0 x4_1 = some r) ∧ Aside0 (kq ≤ k) ∧ Drawn0 w wc)
 case first =>
  have H := HC2.out
  clear HC2
  by_cases c3 : a0 = 1
  ·replace H := ipe c3 H
   obtain ⟨H, c3b0, c3b1⟩ := H
   clear c3
   (first | rw [c3b0] | (simp only [i64_w, i32_w]; rw [c3b0]) | skip)
   have H' := am H
   clear H
   go_wp2
   go_meet
   case rel => exact ⟨_, ((a0 == 1)), sz, H', ⟨oz⟩, dz⟩
  replace H := ine c3 H
  obtain ⟨H, c3b0, c3b1⟩ := H
  (first | rw [c3b0] | (simp only [i64_w, i32_w]; rw [c3b0]) | skip)
  have H' := am H
  clear H
  go_wp2
  go_meet
  case rel => exact ⟨_, ((a0 == 2)), sz, H', ⟨oz⟩, dz⟩
 case rest =>
  clear HC2
  skip
  obtain ⟨kq, x4_1, rfl, HA, HJ1, ⟨mc1, rfl⟩⟩ := hcut
  cases kq with
  | zero => exact absurd HA.out (by simp [expr_kids.j0])
  | succ kj1 =>
   have H := HA.out
   clear HA
   simp only [expr_kids.j0] at H
   by_cases c4 : x4_1 = true
   ·subst c4
    replace H := ift H
    obtain rfl := Option.some.inj H
    go_wp2
    go_ret
    exact ⟨sz, dz⟩
   replace c4 := Bool.eq_false_iff.mpr c4
   subst c4
   replace H := iff_ H
   have HC5 := am H
   clear H
   go_upto_if 7 with (fail)
   go_cut [7] (fun v7 wc => ∃ (kq : Nat) (x7_4 : Bool), v7 = .bool x7_4 ∧ Aside0 (expr_kids.j1 kq a0 a0 x7_4 = some r) ∧ Aside0 (kq ≤ kj1) ∧ Drawn0 w wc)
   case first =>
    have H := HC5.out
    clear HC5
    by_cases c6 : a0 = 3
    ·replace H := ipe c6 H
     obtain ⟨H, c6b0, c6b1⟩ := H
     clear c6
     (first | rw [c6b0] | (simp only [i64_w, i32_w]; rw [c6b0]) | skip)
     have H' := am H
     clear H
     go_wp2
     go_meet
     case rel => exact ⟨_, ((a0 == 3)), sz, H', ⟨oa HJ1⟩, dz⟩
    replace H := ine c6 H
    obtain ⟨H, c6b0, c6b1⟩ := H
    (first | rw [c6b0] | (simp only [i64_w, i32_w]; rw [c6b0]) | skip)
    have H' := am H
    clear H
    go_wp2
    go_meet
    case rel => exact ⟨_, ((a0 == 16)), sz, H', ⟨oa HJ1⟩, dz⟩
   case rest =>
    clear HC5
    try clear c3; try clear c3b0; try clear c3b1; try clear c4
    obtain ⟨kq, x7_4, rfl, HA, HJ4, ⟨mc4, rfl⟩⟩ := hcut
    cases kq with
    | zero => exact absurd HA.out (by simp [expr_kids.j1])
    | succ kj4 =>
     have H := HA.out
     clear HA
     simp only [expr_kids.j1] at H
     by_cases c7 : x7_4 = true
     ·subst c7
      replace H := ift H
      obtain rfl := Option.some.inj H
      go_wp2
      go_ret
      exact ⟨sz, dz⟩
     replace c7 := Bool.eq_false_iff.mpr c7
     subst c7
     replace H := iff_ H
     by_cases c8 : a0 = 17
     ·replace H := ipe c8 H
      obtain ⟨H, c8b0, c8b1⟩ := H
      clear c8
      obtain rfl := Option.some.inj H
      go_wp2
      go_ret
      exact ⟨sz, dz⟩
     replace H := ine c8 H
     obtain ⟨H, c8b0, c8b1⟩ := H
     by_cases c9 : a0 ≥ 4
     ·rw [if_pos c9] at H
      have c9b0 : decide (4 ≤ a0) = true := decide_eq_true c9
      clear c9
      by_cases c10 : a0 ≤ 15
      ·rw [if_pos c10] at H
       have c10b0 : decide (a0 ≤ 15) = true := decide_eq_true c10
       clear c10
       obtain rfl := Option.some.inj H
       go_wp2
       go_ret
       exact ⟨sz, dz⟩
      rw [if_neg c10] at H
      have c10b0 : decide (a0 ≤ 15) = false := decide_eq_false c10
      clear c10
      obtain rfl := Option.some.inj H
      go_wp2
      go_ret
      exact ⟨sz, dz⟩
     rw [if_neg c9] at H
     have c9b0 : decide (4 ≤ a0) = false := decide_eq_false c9
     clear c9
     obtain rfl := Option.some.inj H
     go_wp2
     go_ret
     exact ⟨sz, dz⟩
end Go.Proofs.YtgkemhgihbfmmaaGreatDoor.PA
end
section
namespace Go.Proofs.YtgkemhgihbfmmaaGreatDoor.PA
open Go.RowKit Go.Proofs.YtgkemhgihbfmmaaGreatDoorW.PrintWords Go.Proofs.YtgkemhgihbfmmaaGreatDoorW.PrintLast Go.Proofs.YtgkemhgihbfmmaaGreatDoorW.PrintMore
attribute [local go_sem] max2_int min2_int max_two min_two max_three min_three max_four min_four isSome_set str_gtr
set_option linter.unusedVariables false
set_option linter.unusedSimpArgs false
end Go.Proofs.YtgkemhgihbfmmaaGreatDoor.PA
end
section
namespace Go.Proofs.YtgkemhgihbfmmaaGreatDoor.PA
open Go.RowKit Go.Proofs.YtgkemhgihbfmmaaGreatDoorW.PrintWords Go.Proofs.YtgkemhgihbfmmaaGreatDoorW.PrintLast Go.Proofs.YtgkemhgihbfmmaaGreatDoorW.PrintMore
attribute [local go_sem] max2_int min2_int max_two min_two max_three min_three max_four min_four isSome_set str_gtr
set_option linter.unusedVariables false
set_option linter.unusedSimpArgs false
def slices_Index_string_string.l0 : Nat → List ByteArray → ByteArray → Int → Int → Option (Int)
 | 0, _, _, _, _ => none
 | k + 1, x0, x1, x7, x8 => if x8 < x7 then (if 0 ≤ x8 then (if x8 < (x0.length : Int) then (if x1.toList = (rdOf ByteArray.empty x0 x8).toList then (some x8) else (slices_Index_string_string.l0 k x0 x1 x7 (wrap64 (x8 + 1)))) else (none)) else (none)) else (some (-1))
def slices_Index_string_string.f (k : Nat) (l0 : List ByteArray) (a1 : ByteArray) : Option (Int) := slices_Index_string_string.l0 k l0 a1 (l0.length : Int) 0
theorem slices_Index_string_string.mono_l : ∀ k, (∀ y0 y1 y2 y3, LeO (slices_Index_string_string.l0 k y0 y1 y2 y3) (slices_Index_string_string.l0 (k + 1) y0 y1 y2 y3))
 | 0 => fun _ _ _ _ r h => by simp [slices_Index_string_string.l0] at h
 | k + 1 => by
  have ih0 := slices_Index_string_string.mono_l k
  ·intro y0 y1 y2 y3
   unfold slices_Index_string_string.l0
   exact lmo
theorem slices_Index_string_string.mono : ∀ a0 a1 k, LeO (slices_Index_string_string.f k a0 a1) (slices_Index_string_string.f (k + 1) a0 a1) := by
 intro a0 a1 k
 have ih0 := slices_Index_string_string.mono_l k
 unfold slices_Index_string_string.f
 exact lmo
set_option maxHeartbeats 8000000 in
set_option maxRecDepth 100000 in
theorem slices_Index_string_string.calls (k : Nat) (A0 : Option Addr) (c0 : Nat) (l0 : List ByteArray) (a1 : ByteArray) (r : Int) (w : World) (hr0 : Kd.C Kd.string w A0 l0.length l0) (hc0 : l0.length ≤ c0) (h : slices_Index_string_string.f k l0 a1 = some r) :
  Calls Tryz.prog 199 #[.slice A0 l0.length c0, .string a1] w fun e w' => e = .returned (.int .i64 r) ∧ Drawn0 w w' := by
 have HR0 := am hr0
 have HC0 := am hc0
 clear hr0 hc0
 have H : (slices_Index_string_string.l0 k l0 a1 (l0.length : Int) 0) = some r := h
 clear h
 have H' := am H
 clear H
 go_enter Tryz.func199, Tryz.ntmps199
 go_wp2
 (try simp only [Act.put, List.setIfInBounds_toArray, List.set_cons_succ, List.set_cons_zero])
 go_loopg [8] k (fun kq v8 w' => ∃ (x8_1 : Int), v8 = .int .i64 x8_1 ∧ Aside0 (slices_Index_string_string.l0 kq l0 a1 (l0.length : Int) x8_1 = some r) ∧ Aside0 (kq ≤ k) ∧ Drawn0 w w')
 case atStart => exact ⟨(0), sz, H', ⟨Nat.le_refl _⟩, dz⟩
 case round =>
  clear H'
  skip
  obtain ⟨x8_1, rfl, HA, HK1, ⟨m1, rfl⟩⟩ := hrel
  cases gk with
  | zero => exact absurd HA.out (by simp [slices_Index_string_string.l0])
  | succ k1 =>
   have H := HA.out
   clear HA
   simp only [slices_Index_string_string.l0] at H
   by_cases c3 : x8_1 < (l0.length : Int)
   ·rw [if_pos c3] at H
    have c3b0 : decide (x8_1 < (l0.length : Int)) = true := decide_eq_true c3
    clear c3
    by_cases c4 : 0 ≤ x8_1
    ·rw [if_pos c4] at H
     have c4b0 : decide (0 ≤ x8_1) = true := decide_eq_true c4
     clear c4
     by_cases c5 : x8_1 < (l0.length : Int)
     ·rw [if_pos c5] at H
      have c5b0 : decide (x8_1 < (l0.length : Int)) = true := decide_eq_true c5
      clear c5
      have HC6 := am H
      clear H
      have p188 : 0 ≤ (x8_1 : Int) := of_decide_eq_true tz
      have q188 : x8_1 < (l0.length : Int) := of_decide_eq_true tz
      obtain ⟨ad188, e188, hx188_0⟩ := Kd.at_string HR0.out x8_1 p188 q188
      cases e188
      replace p188 := eq_true p188
      replace q188 := eq_true q188
      go_upto_if 16 with (fail)
      have H := HC6.out
      clear HC6
      clear hx188_0
      by_cases c7 : a1.toList = (rdOf ByteArray.empty l0 x8_1).toList
      ·replace H := ipe c7 H
       obtain ⟨H, c7b0, c7b1⟩ := H
       clear c7
       (first | rw [c7b0] | (simp only [i64_w, i32_w]; rw [c7b0]) | skip)
       obtain rfl := Option.some.inj H
       go_wp2
       go_ret
       exact ⟨sz, dz⟩
      replace H := ine c7 H
      obtain ⟨H, c7b0, c7b1⟩ := H
      (first | rw [c7b0] | (simp only [i64_w, i32_w]; rw [c7b0]) | skip)
      have H' := am H
      clear H
      go_wp2
      go_roundg k1
      case measure => have := HK1.out; omega
      case rel => exact ⟨(wrap64 (x8_1 + 1)), sz, H', ⟨by have := HK1.out; omega⟩, dz⟩
     rw [if_neg c5] at H
     exact absurd H (by simp)
    rw [if_neg c4] at H
    exact absurd H (by simp)
   rw [if_neg c3] at H
   have c3b0 : decide (x8_1 < (l0.length : Int)) = false := decide_eq_false c3
   clear c3
   obtain rfl := Option.some.inj H
   go_wp2
   go_ret
   exact ⟨sz, dz⟩
end Go.Proofs.YtgkemhgihbfmmaaGreatDoor.PA
end
section
namespace Go.Proofs.YtgkemhgihbfmmaaGreatDoor.PA
open Go.RowKit Go.Proofs.YtgkemhgihbfmmaaGreatDoorW.PrintWords Go.Proofs.YtgkemhgihbfmmaaGreatDoorW.PrintLast Go.Proofs.YtgkemhgihbfmmaaGreatDoorW.PrintMore
attribute [local go_sem] max2_int min2_int max_two min_two max_three min_three max_four min_four isSome_set str_gtr
set_option linter.unusedVariables false
set_option linter.unusedSimpArgs false
def slices_Contains_string_string.f (k : Nat) (l0 : List ByteArray) (a1 : ByteArray) : Option (Bool) := (slices_Index_string_string.f k l0 a1).bind fun t189 => (some (decide (t189 ≥ 0)))
theorem slices_Contains_string_string.mono : ∀ a0 a1 k, LeO (slices_Contains_string_string.f k a0 a1) (slices_Contains_string_string.f (k + 1) a0 a1) := by
 intro a0 a1 k
 unfold slices_Contains_string_string.f
 have q0 := @slices_Index_string_string.mono; exact lmo
set_option maxHeartbeats 8000000 in
set_option maxRecDepth 100000 in
theorem slices_Contains_string_string.calls (k : Nat) (A0 : Option Addr) (c0 : Nat) (l0 : List ByteArray) (a1 : ByteArray) (r : Bool) (w : World) (hr0 : Kd.C Kd.string w A0 l0.length l0) (hc0 : l0.length ≤ c0) (h : slices_Contains_string_string.f k l0 a1 = some r) :
  Calls Tryz.prog 152 #[.slice A0 l0.length c0, .string a1] w fun e w' => e = .returned (.bool r) ∧ Drawn0 w w' := by
 have HR0 := am hr0
 have HC0 := am hc0
 clear hr0 hc0
 have H : ((slices_Index_string_string.f k l0 a1).bind fun t189 => (some (decide (t189 ≥ 0)))) = some r := h
 clear h
 replace H := obe H
 obtain ⟨t189, A3, H⟩ := H
 obtain rfl := Option.some.inj H
 go_enter Tryz.func152, Tryz.ntmps152
 go_wp2_with (first | ((with_reducible refine gate_callee (f := 199) rfl ?_); refine gl_ (some 7) Tryz.func199 (by kernel_rfl) #[.slice A0 l0.length c0, .string a1] rfl ?_; (with_reducible refine (slices_Index_string_string.calls k _ _ l0 a1 t189 _ ?side1 ?side2 A3.out).mono ?_); (case side1 => repeat (first | exact HR0.out | (with_reducible refine Kd.C_alloc ?_ _) | (with_reducible refine Kd.C_drewN ?_ _) | (with_reducible refine Kd.C_drew ?_))); (case side2 => exact HC0.out); rintro e w' ⟨rfl, ⟨nd, rfl⟩⟩; refine ⟨_, rfl, ?_⟩))
 go_ret
 exact ⟨sz, dz⟩
end Go.Proofs.YtgkemhgihbfmmaaGreatDoor.PA
end
section
namespace Go.Proofs.YtgkemhgihbfmmaaGreatDoor.PA
open Go.RowKit Go.Proofs.YtgkemhgihbfmmaaGreatDoorW.PrintWords Go.Proofs.YtgkemhgihbfmmaaGreatDoorW.PrintLast Go.Proofs.YtgkemhgihbfmmaaGreatDoorW.PrintMore
attribute [local go_sem] max2_int min2_int max_two min_two max_three min_three max_four min_four isSome_set str_gtr
set_option linter.unusedVariables false
set_option linter.unusedSimpArgs false
def lex_words.f  : Option (List ByteArray) := some (([(⟨#[110, 117, 108, 108]⟩ : ByteArray), (⟨#[116, 114, 117, 101]⟩ : ByteArray), (⟨#[102, 97, 108, 115, 101]⟩ : ByteArray), (⟨#[97, 110, 100]⟩ : ByteArray), (⟨#[111, 114]⟩ : ByteArray), (⟨#[110, 111, 116]⟩ : ByteArray), (⟨#[105, 102]⟩ : ByteArray), (⟨#[116, 104, 101, 110]⟩ : ByteArray), (⟨#[101, 108, 115, 101]⟩ : ByteArray)] : List ByteArray))
set_option maxHeartbeats 8000000 in
set_option maxRecDepth 100000 in
theorem lex_words.calls  (r : List ByteArray) (w : World) (h : lex_words.f  = some r) :
  Calls Tryz.prog 153 #[] w fun e w' => ∃ v0_ : Value, e = .returned (v0_) ∧ Kd.R Kd.string 9 w' w.heap.size (fun _ => True) v0_ r ∧ Below w.heap.size w w' := by
 have HB := am (Below.refl w.heap.size w)
 have H : (some (([(⟨#[110, 117, 108, 108]⟩ : ByteArray), (⟨#[116, 114, 117, 101]⟩ : ByteArray), (⟨#[102, 97, 108, 115, 101]⟩ : ByteArray), (⟨#[97, 110, 100]⟩ : ByteArray), (⟨#[111, 114]⟩ : ByteArray), (⟨#[110, 111, 116]⟩ : ByteArray), (⟨#[105, 102]⟩ : ByteArray), (⟨#[116, 104, 101, 110]⟩ : ByteArray), (⟨#[101, 108, 115, 101]⟩ : ByteArray)] : List ByteArray))) = some r := h
 clear h
 obtain ⟨y190, hy190⟩ : ∃ y_ : List ByteArray, y_ = (([(⟨#[110, 117, 108, 108]⟩ : ByteArray), (⟨#[116, 114, 117, 101]⟩ : ByteArray), (⟨#[102, 97, 108, 115, 101]⟩ : ByteArray), (⟨#[97, 110, 100]⟩ : ByteArray), (⟨#[111, 114]⟩ : ByteArray), (⟨#[110, 111, 116]⟩ : ByteArray), (⟨#[105, 102]⟩ : ByteArray), (⟨#[116, 104, 101, 110]⟩ : ByteArray), (⟨#[101, 108, 115, 101]⟩ : ByteArray)] : List ByteArray)) := ⟨_, rfl⟩
 replace H : (some y190) = some r := by first | (rw [hy190]; with_reducible exact H) | (have H2_ := (Option.bind_some _ _).symm.trans H; rw [hy190]; with_reducible exact H2_) | (have H2_ := (Option.bind_some _ _).symm.trans H; with_reducible exact H2_) | with_reducible exact H | (rw [hy190]; exact H) | exact H
 have Ny190 := am hy190
 clear hy190
 obtain rfl := Option.some.inj H
 go_enter Tryz.func153, Tryz.ntmps153
 go_wp2_with (first | ((with_reducible refine gate_dst (N := 1) rfl ?_); refine rlit Kd.string 9 ([(⟨#[110, 117, 108, 108]⟩ : ByteArray), (⟨#[116, 114, 117, 101]⟩ : ByteArray), (⟨#[102, 97, 108, 115, 101]⟩ : ByteArray), (⟨#[97, 110, 100]⟩ : ByteArray), (⟨#[111, 114]⟩ : ByteArray), (⟨#[110, 111, 116]⟩ : ByteArray), (⟨#[105, 102]⟩ : ByteArray), (⟨#[116, 104, 101, 110]⟩ : ByteArray), (⟨#[101, 108, 115, 101]⟩ : ByteArray)] : List ByteArray) [.string (⟨#[110, 117, 108, 108]⟩ : ByteArray), .string (⟨#[116, 114, 117, 101]⟩ : ByteArray), .string (⟨#[102, 97, 108, 115, 101]⟩ : ByteArray), .string (⟨#[97, 110, 100]⟩ : ByteArray), .string (⟨#[111, 114]⟩ : ByteArray), .string (⟨#[110, 111, 116]⟩ : ByteArray), .string (⟨#[105, 102]⟩ : ByteArray), .string (⟨#[116, 104, 101, 110]⟩ : ByteArray), .string (⟨#[101, 108, 115, 101]⟩ : ByteArray)] ?_ (Below.refl _ _) (Nat.le_refl _) (r1s (r1s (r1s (r1s (r1s (r1s (r1s (r1s (r1s (Reps.none _ _)))))))))); intro v191 w1 ho2 hb hg_ hnew_; clear hg_ hnew_; (first | rw [← Ny190.out] at ho2 | (simp only [Int.reduceToNat] at ho2; rw [← Ny190.out] at ho2)); have HO192 := am (Kd.R_lower ho2 (below_size (bz HB.out))); replace HB := sb HB hb; clear hb ho2))
 go_ret
 exact ⟨_, az, rr HO192.out, bz HB.out⟩
end Go.Proofs.YtgkemhgihbfmmaaGreatDoor.PA
end
section
namespace Go.Proofs.YtgkemhgihbfmmaaGreatDoor.PA
open Go.RowKit Go.Proofs.YtgkemhgihbfmmaaGreatDoorW.PrintWords Go.Proofs.YtgkemhgihbfmmaaGreatDoorW.PrintLast Go.Proofs.YtgkemhgihbfmmaaGreatDoorW.PrintMore
attribute [local go_sem] max2_int min2_int max_two min_two max_three min_three max_four min_four isSome_set str_gtr
set_option linter.unusedVariables false
set_option linter.unusedSimpArgs false
def lex_Word.f (k : Nat) (a0 : ByteArray) : Option (Bool) := (chars_Name.f a0).bind fun t193 => (if t193 = true then ((lex_words.f).bind fun t194 => ((slices_Contains_string_string.f k t194 a0).bind fun t197 => (some (!t197)))) else (some false))
theorem lex_Word.mono : ∀ a0 k, LeO (lex_Word.f k a0) (lex_Word.f (k + 1) a0) := by
 intro a0 k
 unfold lex_Word.f
 have q0 := @slices_Contains_string_string.mono; exact lmo
set_option maxHeartbeats 8000000 in
set_option maxRecDepth 100000 in
theorem lex_Word.calls (k : Nat) (a0 : ByteArray) (r : Bool) (w : World) (h : lex_Word.f k a0 = some r) :
  Calls Tryz.prog 112 #[.string a0] w fun e w' => e = .returned (.bool r) ∧ Below w.heap.size w w' := by
 have HB := am (Below.refl w.heap.size w)
 have H : ((chars_Name.f a0).bind fun t193 => (if t193 = true then ((lex_words.f).bind fun t194 => ((slices_Contains_string_string.f k t194 a0).bind fun t197 => (some (!t197)))) else (some false))) = some r := h
 clear h
 replace H := obe H
 obtain ⟨t193, A2, H⟩ := H
 by_cases c3 : t193 = true
 ·subst c3
  replace H := ift H
  replace H := obe H
  obtain ⟨t194, A4, H⟩ := H
  replace H := obe H
  obtain ⟨t197, A5, H⟩ := H
  obtain rfl := Option.some.inj H
  go_enter Tryz.func112, Tryz.ntmps112
  go_wp2_with (first | ((with_reducible refine gate_callee (f := 151) rfl ?_); refine gl_ (some 4) Tryz.func151 (by kernel_rfl) #[.string a0] rfl ?_; (with_reducible refine (chars_Name.calls a0 true _ A2.out).mono ?_); rintro e w6 ⟨rfl, hb⟩; refine ⟨_, rfl, ?_⟩; replace HB := sb HB hb; clear hb) | (go_at_call 153; (with_reducible refine (lex_words.calls  t194 _ A4.out).mono ?_); rintro e w7 ⟨v195, rfl, ho0, hb⟩; have HO196 := am (Kd.R_lower ho0 (below_size (bz HB.out))); replace HB := sb HB hb; clear hb ho0; obtain ⟨Ao8, co8, eo8⟩ := Kd.R_slice HO196.out; subst eo8) | (go_at_call 152; (with_reducible refine (slices_Contains_string_string.calls k _ _ t194 a0 t197 _ ?side1 ?side2 A5.out).mono ?_); (case side1 => repeat (first | exact (Kd.R_reads' HO196.out).2.2 | (with_reducible refine Kd.C_alloc ?_ _) | (with_reducible refine Kd.C_drewN ?_ _) | (with_reducible refine Kd.C_drew ?_))); (case side2 => exact (Kd.R_reads' HO196.out).2.1); rintro e w' ⟨rfl, ⟨nd, rfl⟩⟩))
  go_ret
  exact ⟨az, bz HB.out⟩
 replace c3 := Bool.eq_false_iff.mpr c3
 subst c3
 replace H := iff_ H
 obtain rfl := Option.some.inj H
 go_enter Tryz.func112, Tryz.ntmps112
 go_wp2_with (first | ((with_reducible refine gate_callee (f := 151) rfl ?_); refine gl_ (some 4) Tryz.func151 (by kernel_rfl) #[.string a0] rfl ?_; (with_reducible refine (chars_Name.calls a0 false _ A2.out).mono ?_); rintro e w9 ⟨rfl, hb⟩; refine ⟨_, rfl, ?_⟩; replace HB := sb HB hb; clear hb))
 go_ret
 exact ⟨az, bz HB.out⟩
end Go.Proofs.YtgkemhgihbfmmaaGreatDoor.PA
end
section
namespace Go.Proofs.YtgkemhgihbfmmaaGreatDoor.PA
open Go.RowKit Go.Proofs.YtgkemhgihbfmmaaGreatDoorW.PrintWords Go.Proofs.YtgkemhgihbfmmaaGreatDoorW.PrintLast Go.Proofs.YtgkemhgihbfmmaaGreatDoorW.PrintMore
attribute [local go_sem] max2_int min2_int max_two min_two max_three min_three max_four min_four isSome_set str_gtr
set_option linter.unusedVariables false
set_option linter.unusedSimpArgs false
def deci_all.l0 : Nat → List (S23) → Int → Int → Option (Int)
 | 0, _, _, _ => none
 | k + 1, x5, x6, x7 => if x7 < x6 then (if 0 ≤ x7 then (if x7 < (x5.length : Int) then ((deci_Sound.f k ((rd_T23 x5 x7).f0) ((rd_T23 x5 x7).f1)).bind fun t200 => (if t200 = true then (deci_all.l0 k x5 x6 (wrap64 (x7 + 1))) else (some 2))) else (none)) else (none)) else (some 0)
def deci_all.f (k : Nat) (l0 : List (S23)) : Option (Int) := deci_all.l0 k l0 (l0.length : Int) 0
theorem deci_all.mono_l : ∀ k, (∀ y0 y1 y2, LeO (deci_all.l0 k y0 y1 y2) (deci_all.l0 (k + 1) y0 y1 y2))
 | 0 => fun _ _ _ r h => by simp [deci_all.l0] at h
 | k + 1 => by
  have ih0 := deci_all.mono_l k
  ·intro y0 y1 y2
   unfold deci_all.l0
   have q0 := @deci_Sound.mono; exact lmo
theorem deci_all.mono : ∀ a0 k, LeO (deci_all.f k a0) (deci_all.f (k + 1) a0) := by
 intro a0 k
 have ih0 := deci_all.mono_l k
 unfold deci_all.f
 have q0 := @deci_Sound.mono; exact lmo
set_option maxHeartbeats 8000000 in
set_option maxRecDepth 100000 in
theorem deci_all.calls (k : Nat) (A0 : Option Addr) (c0 : Nat) (l0 : List (S23)) (r : Int) (w : World) (hr0 : Kd.C k23 w A0 l0.length l0) (hc0 : l0.length ≤ c0) (h : deci_all.f k l0 = some r) :
  Calls Tryz.prog 43 #[.slice A0 l0.length c0] w fun e w' => e = .returned (.int .i64 r) ∧ Below w.heap.size w w' := by
 have hu23 := Tryz.underlying23
 have HR0 := am hr0
 have HC0 := am hc0
 clear hr0 hc0
 have HB := am (Below.refl w.heap.size w)
 have H : (deci_all.l0 k l0 (l0.length : Int) 0) = some r := h
 clear h
 have H' := am H
 clear H
 go_enter Tryz.func43, Tryz.ntmps43
 go_wp2
 (try simp only [Act.put, List.setIfInBounds_toArray, List.set_cons_succ, List.set_cons_zero])
 go_loopg [7] k (fun kq v7 w' => ∃ (x7_1 : Int), v7 = .int .i64 x7_1 ∧ Aside0 (deci_all.l0 kq l0 (l0.length : Int) x7_1 = some r) ∧ Aside0 (kq ≤ k) ∧ Aside0 (Below w.heap.size w w'))
 case atStart => exact ⟨(0), sz, H', ⟨Nat.le_refl _⟩, ⟨bz HB.out⟩⟩
 case round =>
  clear H'
  obtain ⟨x7_1, rfl, HA, HK1, HB⟩ := hrel
  cases gk with
  | zero => exact absurd HA.out (by simp [deci_all.l0])
  | succ k1 =>
   have H := HA.out
   clear HA
   simp only [deci_all.l0] at H
   by_cases c2 : x7_1 < (l0.length : Int)
   ·rw [if_pos c2] at H
    have c2b0 : decide (x7_1 < (l0.length : Int)) = true := decide_eq_true c2
    clear c2
    by_cases c3 : 0 ≤ x7_1
    ·rw [if_pos c3] at H
     have c3b0 : decide (0 ≤ x7_1) = true := decide_eq_true c3
     clear c3
     by_cases c4 : x7_1 < (l0.length : Int)
     ·rw [if_pos c4] at H
      have c4b0 : decide (x7_1 < (l0.length : Int)) = true := decide_eq_true c4
      clear c4
      replace H := obe H
      obtain ⟨t200, A5, H⟩ := H
      have HC6 := am H
      clear H
      have p198 : 0 ≤ (x7_1 : Int) := of_decide_eq_true tz
      have q198 : x7_1 < (l0.length : Int) := of_decide_eq_true tz
      obtain ⟨ad198, e198, hx198_0, hx198_1⟩ := at_T23 HR0.out x7_1 p198 q198
      cases e198
      replace hx198_0 := hbw HB.out hx198_0
      replace hx198_1 := hbw HB.out hx198_1
      replace p198 := eq_true p198
      replace q198 := eq_true q198
      go_upto_if 13 with (first | ((with_reducible refine gate_dst (N := 4) rfl ?_); refine bev (#[.int .i64 0, .int .i64 0]) 23 ?_; intro gb199 hg w7 hbox hb; have BK199 := am (hbox); have GW199 := gs hg HB; have GE199 := GW199; replace HB := sb HB hb; clear hb hbox hg; obtain ⟨Z8_0, Z8_1, F8_0, F8_1⟩ := cz2 BK199.out) | ((with_reducible refine gate_callee (f := 70) rfl ?_); refine gl_ (some 12) Tryz.func70 (by kernel_rfl) #[.agg #[.int .i64 ((rd_T23 l0 x7_1).f0), .int .i64 ((rd_T23 l0 x7_1).f1)]] rfl ?_; (with_reducible refine (deci_Sound.calls k1 ((rd_T23 l0 x7_1).f0) ((rd_T23 l0 x7_1).f1) t200 _ A5.out).mono ?_); rintro e w9 ⟨rfl, hb⟩; refine ⟨_, rfl, ?_⟩; replace BK199 := am (blk_below (g := gb199) (o := .cells #[.int .i64 ((rd_T23 l0 x7_1).f0), .int .i64 ((rd_T23 l0 x7_1).f1)] 23 (0, 0)) (bp BK199.out) hb); replace HB := sb HB hb; clear hb))
      (try simp only [Act.put, List.setIfInBounds_toArray, List.set_cons_zero, List.set_cons_succ])
      have H := HC6.out
      clear HC6
      clear hx198_0 hx198_1 Z8_0 Z8_1 F8_0 F8_1
      by_cases c10 : t200 = true
      ·subst c10
       replace H := ift H
       have H' := am H
       clear H
       go_wp2
       go_roundg k1
       case measure => have := HK1.out; omega
       case rel => exact ⟨(wrap64 (x7_1 + 1)), sz, H', ⟨by have := HK1.out; omega⟩, ⟨bz HB.out⟩⟩
      replace c10 := Bool.eq_false_iff.mpr c10
      subst c10
      replace H := iff_ H
      obtain rfl := Option.some.inj H
      go_wp2
      go_ret
      exact ⟨az, bz HB.out⟩
     rw [if_neg c4] at H
     exact absurd H (by simp)
    rw [if_neg c3] at H
    exact absurd H (by simp)
   rw [if_neg c2] at H
   have c2b0 : decide (x7_1 < (l0.length : Int)) = false := decide_eq_false c2
   clear c2
   obtain rfl := Option.some.inj H
   go_wp2
   go_ret
   exact ⟨az, bz HB.out⟩
end Go.Proofs.YtgkemhgihbfmmaaGreatDoor.PA
end
section
namespace Go.Proofs.YtgkemhgihbfmmaaGreatDoor.PA
open Go.RowKit Go.Proofs.YtgkemhgihbfmmaaGreatDoorW.PrintWords Go.Proofs.YtgkemhgihbfmmaaGreatDoorW.PrintLast Go.Proofs.YtgkemhgihbfmmaaGreatDoorW.PrintMore
attribute [local go_sem] max2_int min2_int max_two min_two max_three min_three max_four min_four isSome_set str_gtr
set_option linter.unusedVariables false
set_option linter.unusedSimpArgs false
def deci_power.l0 : Nat → Int → Int → Int → Option (Int)
 | 0, _, _, _ => none
 | k + 1, x3, x4, x5 => if x5 < x4 then (deci_power.l0 k (IntKind.u64.wrap (x3 * 10)) x4 (wrap64 (x5 + 1))) else (some x3)
def deci_power.f (k : Nat) (a0 : Int) : Option (Int) := deci_power.l0 k 1 a0 0
theorem deci_power.mono_l : ∀ k, (∀ y0 y1 y2, LeO (deci_power.l0 k y0 y1 y2) (deci_power.l0 (k + 1) y0 y1 y2))
 | 0 => fun _ _ _ r h => by simp [deci_power.l0] at h
 | k + 1 => by
  have ih0 := deci_power.mono_l k
  ·intro y0 y1 y2
   unfold deci_power.l0
   exact lmo
theorem deci_power.mono : ∀ a0 k, LeO (deci_power.f k a0) (deci_power.f (k + 1) a0) := by
 intro a0 k
 have ih0 := deci_power.mono_l k
 unfold deci_power.f
 exact lmo
set_option maxHeartbeats 8000000 in
set_option maxRecDepth 100000 in
theorem deci_power.calls (k : Nat) (a0 r : Int) (w : World) (h : deci_power.f k a0 = some r) :
  Calls Tryz.prog 83 #[.int .i64 a0] w fun e w' => e = .returned (.int .u64 r) ∧ Drawn0 w w' := by
 have H : (deci_power.l0 k 1 a0 0) = some r := h
 clear h
 have H' := am H
 clear H
 go_enter Tryz.func83, Tryz.ntmps83
 go_wp2
 (try simp only [Act.put, List.setIfInBounds_toArray, List.set_cons_succ, List.set_cons_zero])
 go_loopg [3, 5] k (fun kq v3 v5 w' => ∃ (x3_1 x5_1 : Int), v3 = .int .u64 x3_1 ∧ v5 = .int .i64 x5_1 ∧ Aside0 (deci_power.l0 kq x3_1 a0 x5_1 = some r) ∧ Aside0 (kq ≤ k) ∧ Drawn0 w w')
 case atStart => exact ⟨(1), (0), sz, sz, H', ⟨Nat.le_refl _⟩, dz⟩
 case round =>
  clear H'
  obtain ⟨x3_1, x5_1, rfl, rfl, HA, HK1, ⟨m1, rfl⟩⟩ := hrel
  cases gk with
  | zero => exact absurd HA.out (by simp [deci_power.l0])
  | succ k1 =>
   have H := HA.out
   clear HA
   simp only [deci_power.l0] at H
   by_cases c2 : x5_1 < a0
   ·rw [if_pos c2] at H
    have c2b0 : decide (x5_1 < a0) = true := decide_eq_true c2
    clear c2
    have H' := am H
    clear H
    go_wp2
    go_roundg k1
    case measure => have := HK1.out; omega
    case rel => exact ⟨(IntKind.u64.wrap (x3_1 * 10)), (wrap64 (x5_1 + 1)), sz, sz, H', ⟨by have := HK1.out; omega⟩, dz⟩
   rw [if_neg c2] at H
   have c2b0 : decide (x5_1 < a0) = false := decide_eq_false c2
   clear c2
   obtain rfl := Option.some.inj H
   go_wp2
   go_ret
   exact ⟨sz, dz⟩
end Go.Proofs.YtgkemhgihbfmmaaGreatDoor.PA
end
section
namespace Go.Proofs.YtgkemhgihbfmmaaGreatDoor.PA
open Go.RowKit Go.Proofs.YtgkemhgihbfmmaaGreatDoorW.PrintWords Go.Proofs.YtgkemhgihbfmmaaGreatDoorW.PrintLast Go.Proofs.YtgkemhgihbfmmaaGreatDoorW.PrintMore
attribute [local go_sem] max2_int min2_int max_two min_two max_three min_three max_four min_four isSome_set str_gtr
set_option linter.unusedVariables false
set_option linter.unusedSimpArgs false
def deci_units.f (k : Nat) (a0_0 a0_1 : Int) : Option (Int) := (deci_power.f k (wrap64 (6 - a0_1))).bind fun t202 => (some (wrap64 (a0_0 * (wrap64 (t202)))))
theorem deci_units.mono : ∀ a0 a1 k, LeO (deci_units.f k a0 a1) (deci_units.f (k + 1) a0 a1) := by
 intro a0 a1 k
 unfold deci_units.f
 have q0 := @deci_power.mono; exact lmo
set_option maxHeartbeats 8000000 in
set_option maxRecDepth 100000 in
theorem deci_units.calls (k : Nat) (a0_0 a0_1 r : Int) (w : World) (h : deci_units.f k a0_0 a0_1 = some r) :
  Calls Tryz.prog 44 #[.agg #[.int .i64 a0_0, .int .i64 a0_1]] w fun e w' => e = .returned (.int .i64 r) ∧ Below w.heap.size w w' := by
 have hu23 := Tryz.underlying23
 have HB := am (Below.refl w.heap.size w)
 have H : ((deci_power.f k (wrap64 (6 - a0_1))).bind fun t202 => (some (wrap64 (a0_0 * (wrap64 (t202)))))) = some r := h
 clear h
 replace H := obe H
 obtain ⟨t202, A2, H⟩ := H
 obtain rfl := Option.some.inj H
 go_enter Tryz.func44, Tryz.ntmps44
 go_wp2_with (first | ((with_reducible refine gate_dst (N := 1) rfl ?_); refine bev (#[.int .i64 a0_0, .int .i64 a0_1]) 23 ?_; intro gb201 hg w3 hbox hb; have BK201 := am (hbox); have GW201 := gs hg HB; have GE201 := GW201; replace HB := sb HB hb; clear hb hbox hg; obtain ⟨Z4_0, Z4_1, F4_0, F4_1⟩ := cz2 BK201.out) | (go_at_call 83; (with_reducible refine (deci_power.calls k (wrap64 (6 - a0_1)) t202 _ A2.out).mono ?_); rintro e w' ⟨rfl, ⟨nd, rfl⟩⟩; (try first | exact ⟨rfl, _, World.drewN_drewN _ _ _⟩ | exact ⟨rfl, _, Eq.trans (World.drewN_drewN _ _ _) (congrArg (World.drewN _) (Nat.add_assoc _ _ _))⟩)))
 repeat (go_quiet (first | ((with_reducible refine gate_dst (N := 1) rfl ?_); refine bev (#[.int .i64 a0_0, .int .i64 a0_1]) 23 ?_; intro gb201 hg w3 hbox hb; have BK201 := am (hbox); have GW201 := gs hg HB; have GE201 := GW201; replace HB := sb HB hb; clear hb hbox hg; obtain ⟨Z4_0, Z4_1, F4_0, F4_1⟩ := cz2 BK201.out) | (go_at_call 83; (with_reducible refine (deci_power.calls k (wrap64 (6 - a0_1)) t202 _ A2.out).mono ?_); rintro e w' ⟨rfl, ⟨nd, rfl⟩⟩; (try first | exact ⟨rfl, _, World.drewN_drewN _ _ _⟩ | exact ⟨rfl, _, Eq.trans (World.drewN_drewN _ _ _) (congrArg (World.drewN _) (Nat.add_assoc _ _ _))⟩))); try go_wp2_with (first | ((with_reducible refine gate_dst (N := 1) rfl ?_); refine bev (#[.int .i64 a0_0, .int .i64 a0_1]) 23 ?_; intro gb201 hg w3 hbox hb; have BK201 := am (hbox); have GW201 := gs hg HB; have GE201 := GW201; replace HB := sb HB hb; clear hb hbox hg; obtain ⟨Z4_0, Z4_1, F4_0, F4_1⟩ := cz2 BK201.out) | (go_at_call 83; (with_reducible refine (deci_power.calls k (wrap64 (6 - a0_1)) t202 _ A2.out).mono ?_); rintro e w' ⟨rfl, ⟨nd, rfl⟩⟩; (try first | exact ⟨rfl, _, World.drewN_drewN _ _ _⟩ | exact ⟨rfl, _, Eq.trans (World.drewN_drewN _ _ _) (congrArg (World.drewN _) (Nat.add_assoc _ _ _))⟩))))
 go_ret
 exact ⟨az, bz HB.out⟩
end Go.Proofs.YtgkemhgihbfmmaaGreatDoor.PA
end
section
namespace Go.Proofs.YtgkemhgihbfmmaaGreatDoor.PA
open Go.RowKit Go.Proofs.YtgkemhgihbfmmaaGreatDoorW.PrintWords Go.Proofs.YtgkemhgihbfmmaaGreatDoorW.PrintLast Go.Proofs.YtgkemhgihbfmmaaGreatDoorW.PrintMore
attribute [local go_sem] max2_int min2_int max_two min_two max_three min_three max_four min_four isSome_set str_gtr
set_option linter.unusedVariables false
set_option linter.unusedSimpArgs false
def cmp_isNaN_int.f (a0 : Int) : Option (Bool) := some (a0 != a0)
set_option maxHeartbeats 8000000 in
set_option maxRecDepth 100000 in
theorem cmp_isNaN_int.calls (a0 : Int) (r : Bool) (w : World) (h : cmp_isNaN_int.f a0 = some r) :
  Calls Tryz.prog 97 #[.int .i64 a0] w fun e w' => e = .returned (.bool r) ∧ Drawn0 w w' := by
 have H : (some (a0 != a0)) = some r := h
 clear h
 obtain rfl := Option.some.inj H
 go_enter Tryz.func97, Tryz.ntmps97
 go_wp2
 go_ret
 exact ⟨sz, dz⟩
end Go.Proofs.YtgkemhgihbfmmaaGreatDoor.PA
end
section
namespace Go.Proofs.YtgkemhgihbfmmaaGreatDoor.PA
open Go.RowKit Go.Proofs.YtgkemhgihbfmmaaGreatDoorW.PrintWords Go.Proofs.YtgkemhgihbfmmaaGreatDoorW.PrintLast Go.Proofs.YtgkemhgihbfmmaaGreatDoorW.PrintMore
attribute [local go_sem] max2_int min2_int max_two min_two max_three min_three max_four min_four isSome_set str_gtr
set_option linter.unusedVariables false
set_option linter.unusedSimpArgs false
def cmp_Compare_int.f (a0 a1 : Int) : Option (Int) := (cmp_isNaN_int.f a0).bind fun t203 => ((cmp_isNaN_int.f a1).bind fun t204 => (if t203 = true then (if t204 = true then (some 0) else (some (-1))) else (if t204 = true then (some 1) else (if a0 < a1 then (some (-1)) else (if a0 > a1 then (some 1) else (some 0))))))
set_option maxHeartbeats 8000000 in
set_option maxRecDepth 100000 in
theorem cmp_Compare_int.calls (a0 a1 r : Int) (w : World) (h : cmp_Compare_int.f a0 a1 = some r) :
  Calls Tryz.prog 54 #[.int .i64 a0, .int .i64 a1] w fun e w' => e = .returned (.int .i64 r) ∧ Drawn0 w w' := by
 have H : ((cmp_isNaN_int.f a0).bind fun t203 => ((cmp_isNaN_int.f a1).bind fun t204 => (if t203 = true then (if t204 = true then (some 0) else (some (-1))) else (if t204 = true then (some 1) else (if a0 < a1 then (some (-1)) else (if a0 > a1 then (some 1) else (some 0))))))) = some r := h
 clear h
 replace H := obe H
 obtain ⟨t203, A3, H⟩ := H
 replace H := obe H
 obtain ⟨t204, A4, H⟩ := H
 have HC5 := am H
 clear H
 go_enter Tryz.func54, Tryz.ntmps54
 go_upto_if 11 with (first | ((with_reducible refine gate_callee (f := 97) rfl ?_); refine gl_ (some 8) Tryz.func97 (by kernel_rfl) #[.int .i64 a0] rfl ?_; (with_reducible refine (cmp_isNaN_int.calls a0 t203 _ A3.out).mono ?_); rintro e w' ⟨rfl, ⟨nd, rfl⟩⟩; refine ⟨_, rfl, ?_⟩) | ((with_reducible refine gate_callee (f := 97) rfl ?_); refine gl_ (some 10) Tryz.func97 (by kernel_rfl) #[.int .i64 a1] rfl ?_; (with_reducible refine (cmp_isNaN_int.calls a1 t204 _ A4.out).mono ?_); rintro e w' ⟨rfl, ⟨nd, rfl⟩⟩; refine ⟨_, rfl, ?_⟩))
 (try simp only [Act.put, List.setIfInBounds_toArray, List.set_cons_zero, List.set_cons_succ])
 have H := HC5.out
 clear HC5
 by_cases c6 : t203 = true
 ·subst c6
  replace H := ift H
  by_cases c7 : t204 = true
  ·subst c7
   replace H := ift H
   obtain rfl := Option.some.inj H
   go_wp2
   go_ret
   exact ⟨sz, dz⟩
  replace c7 := Bool.eq_false_iff.mpr c7
  subst c7
  replace H := iff_ H
  obtain rfl := Option.some.inj H
  go_wp2
  go_ret
  exact ⟨sz, dz⟩
 replace c6 := Bool.eq_false_iff.mpr c6
 subst c6
 replace H := iff_ H
 by_cases c8 : t204 = true
 ·subst c8
  replace H := ift H
  obtain rfl := Option.some.inj H
  go_wp2
  go_ret
  exact ⟨sz, dz⟩
 replace c8 := Bool.eq_false_iff.mpr c8
 subst c8
 replace H := iff_ H
 by_cases c9 : a0 < a1
 ·rw [if_pos c9] at H
  have c9b0 : decide (a0 < a1) = true := decide_eq_true c9
  clear c9
  (first | rw [c9b0] | (simp only [i64_w, i32_w]; rw [c9b0]) | skip)
  obtain rfl := Option.some.inj H
  go_wp2
  go_ret
  exact ⟨sz, dz⟩
 rw [if_neg c9] at H
 have c9b0 : decide (a0 < a1) = false := decide_eq_false c9
 clear c9
 (first | rw [c9b0] | (simp only [i64_w, i32_w]; rw [c9b0]) | skip)
 by_cases c10 : a0 > a1
 ·rw [if_pos c10] at H
  have c10b0 : decide (a1 < a0) = true := decide_eq_true c10
  clear c10
  obtain rfl := Option.some.inj H
  go_wp2
  go_ret
  exact ⟨sz, dz⟩
 rw [if_neg c10] at H
 have c10b0 : decide (a1 < a0) = false := decide_eq_false c10
 clear c10
 obtain rfl := Option.some.inj H
 go_wp2
 go_ret
 exact ⟨sz, dz⟩
end Go.Proofs.YtgkemhgihbfmmaaGreatDoor.PA
end
section
namespace Go.Proofs.YtgkemhgihbfmmaaGreatDoor.PA
open Go.RowKit Go.Proofs.YtgkemhgihbfmmaaGreatDoorW.PrintWords Go.Proofs.YtgkemhgihbfmmaaGreatDoorW.PrintLast Go.Proofs.YtgkemhgihbfmmaaGreatDoorW.PrintMore
attribute [local go_sem] max2_int min2_int max_two min_two max_three min_three max_four min_four isSome_set str_gtr
set_option linter.unusedVariables false
set_option linter.unusedSimpArgs false
def deci_Compare.f (k : Nat) (a0_0 a0_1 a1_0 a1_1 : Int) : Option (Int × Int) := (deci_all.f k (([(⟨a0_0, a0_1⟩ : S23), (⟨a1_0, a1_1⟩ : S23)] : List (S23)))).bind fun t210 => (if t210 = 0 then ((deci_units.f k a0_0 a0_1).bind fun t211 => ((deci_units.f k a1_0 a1_1).bind fun t212 => ((cmp_Compare_int.f t211 t212).bind fun t213 => (some (t213, 0))))) else (some (0, t210)))
theorem deci_Compare.mono : ∀ a0 a1 a2 a3 k, LeO (deci_Compare.f k a0 a1 a2 a3) (deci_Compare.f (k + 1) a0 a1 a2 a3) := by
 intro a0 a1 a2 a3 k
 unfold deci_Compare.f
 have q0 := @deci_all.mono; have q1 := @deci_units.mono; exact lmo
set_option maxHeartbeats 8000000 in
set_option maxRecDepth 100000 in
theorem deci_Compare.calls (k : Nat) (a0_0 a0_1 a1_0 a1_1 r1 r2 : Int) (w : World) (h : deci_Compare.f k a0_0 a0_1 a1_0 a1_1 = some (r1, r2)) :
  Calls Tryz.prog 20 #[.agg #[.int .i64 a0_0, .int .i64 a0_1], .agg #[.int .i64 a1_0, .int .i64 a1_1]] w fun e w' => e = .returned (.tuple #[.int .i64 r1, .int .i64 r2]) ∧ Below w.heap.size w w' := by
 have hu23 := Tryz.underlying23
 have HB := am (Below.refl w.heap.size w)
 have H : ((deci_all.f k (([(⟨a0_0, a0_1⟩ : S23), (⟨a1_0, a1_1⟩ : S23)] : List (S23)))).bind fun t210 => (if t210 = 0 then ((deci_units.f k a0_0 a0_1).bind fun t211 => ((deci_units.f k a1_0 a1_1).bind fun t212 => ((cmp_Compare_int.f t211 t212).bind fun t213 => (some (t213, 0))))) else (some (0, t210)))) = some (r1, r2) := h
 clear h
 obtain ⟨y207, hy207⟩ : ∃ y_ : List (S23), y_ = (([(⟨a0_0, a0_1⟩ : S23), (⟨a1_0, a1_1⟩ : S23)] : List (S23))) := ⟨_, rfl⟩
 replace H : ((deci_all.f k y207).bind fun t210 => (if t210 = 0 then ((deci_units.f k a0_0 a0_1).bind fun t211 => ((deci_units.f k a1_0 a1_1).bind fun t212 => ((cmp_Compare_int.f t211 t212).bind fun t213 => (some (t213, 0))))) else (some (0, t210)))) = some (r1, r2) := by first | (rw [hy207]; with_reducible exact H) | (have H2_ := (Option.bind_some _ _).symm.trans H; rw [hy207]; with_reducible exact H2_) | (have H2_ := (Option.bind_some _ _).symm.trans H; with_reducible exact H2_) | with_reducible exact H | (rw [hy207]; exact H) | exact H
 have Ny207 := am hy207
 clear hy207
 replace H := obe H
 obtain ⟨t210, A3, H⟩ := H
 have HC4 := am H
 clear H
 go_enter Tryz.func20, Tryz.ntmps20
 go_upto_if 12 with (first | ((with_reducible refine gate_dst (N := 2) rfl ?_); refine bev (#[.int .i64 a0_0, .int .i64 a0_1]) 23 ?_; intro gb205 hg w5 hbox hb; have BK205 := am (hbox); have GW205 := gs hg HB; have GE205 := GW205; replace HB := sb HB hb; clear hb hbox hg) | ((with_reducible refine gate_dst (N := 3) rfl ?_); refine bev (#[.int .i64 a1_0, .int .i64 a1_1]) 23 ?_; intro gb206 hg w6 hbox hb; have BK206 := am (hbox); have GW206 := gs hg HB; have GE206 := GW206; replace HB := sb HB hb; have NB205_206 := na hg BK205; have NB206_205 := nb hg BK205; replace BK205 := kb BK205 hb; clear hb hbox hg; have hnb7 := NB205_206.out; have hnc7 := NB206_205.out; obtain ⟨Z8_0, Z8_1, F8_0, F8_1⟩ := cz2 BK205.out; obtain ⟨Z9_0, Z9_1, F9_0, F9_1⟩ := cz2 BK206.out) | ((with_reducible refine gate_dst (N := 9) rfl ?_); refine rlit k23 23 ([(⟨a0_0, a0_1⟩ : S23), (⟨a1_0, a1_1⟩ : S23)] : List (S23)) [.int .i64 a0_0, .int .i64 a0_1, .int .i64 a1_0, .int .i64 a1_1] ?_ (Below.refl _ _) (Nat.le_refl _) (Reps.c2 (show Kd.M k23 _ _ _ (⟨a0_0, a0_1⟩ : S23) [.int .i64 a0_0, .int .i64 a0_1] from (k23_mkM _ _ _ (⟨a0_0, a0_1⟩ : S23) )) (Reps.c2 (show Kd.M k23 _ _ _ (⟨a1_0, a1_1⟩ : S23) [.int .i64 a1_0, .int .i64 a1_1] from (k23_mkM _ _ _ (⟨a1_0, a1_1⟩ : S23) )) (Reps.none _ _))); intro v208 w10 ho11 hb hg_ hnew_; clear hg_ hnew_; (first | rw [← Ny207.out] at ho11 | (simp only [Int.reduceToNat] at ho11; rw [← Ny207.out] at ho11)); have HO209 := am (Kd.R_lower (Kd.R_newB (Kd.R_newB ho11 (bk BK205.out)) (bk BK206.out)) (below_size (bz HB.out))); replace BK205 := kb BK205 hb; replace BK206 := kb BK206 hb; replace HB := sb HB hb; clear hb ho11; obtain ⟨Ao12, co12, eo12⟩ := Kd.R_slice HO209.out; subst eo12) | ((with_reducible refine gate_callee (f := 43) rfl ?_); refine gl_ (some 10) Tryz.func43 (by kernel_rfl) #[.slice Ao12 y207.length co12] rfl ?_; (with_reducible refine (deci_all.calls k _ _ y207 t210 _ ?side1 ?side2 A3.out).mono ?_); (case side1 => repeat (first | exact (Kd.R_reads' HO209.out).2.2 | (with_reducible refine Kd.C_alloc ?_ _) | (with_reducible refine Kd.C_drewN ?_ _) | (with_reducible refine Kd.C_drew ?_))); (case side2 => exact (Kd.R_reads' HO209.out).2.1); rintro e w13 ⟨rfl, hb⟩; refine ⟨_, rfl, ?_⟩; replace HO209 := am (Kd.R_below (rr HO209.out) hb); replace BK205 := kb BK205 hb; replace BK206 := kb BK206 hb; replace HB := sb HB hb; clear hb))
 (try simp only [Act.put, List.setIfInBounds_toArray, List.set_cons_zero, List.set_cons_succ])
 have H := HC4.out
 clear HC4
 clear Z8_0 Z8_1 F8_0 F8_1 Z9_0 Z9_1 F9_0 F9_1
 by_cases c14 : t210 = 0
 ·replace H := ipe c14 H
  obtain ⟨H, c14b0, c14b1⟩ := H
  clear c14
  (first | rw [c14b0] | (simp only [i64_w, i32_w]; rw [c14b0]) | skip)
  replace H := obe H
  obtain ⟨t211, A15, H⟩ := H
  replace H := obe H
  obtain ⟨t212, A16, H⟩ := H
  replace H := obe H
  obtain ⟨t213, A17, H⟩ := H
  simp only [Option.some.injEq, Prod.mk.injEq] at H
  obtain ⟨rfl, rfl⟩ := H
  try go_wp2
  replace HO209 := am (Kd.R_drew HO209.out)
  replace BK205 := am (blk_drew BK205.out)
  replace BK206 := am (blk_drew BK206.out)
  replace HB := am (below_drew1 HB.out)
  refine start_ (n := 7) (S := fun w' => w'.cell? ⟨gb205, 0, none⟩ = some (.int .i64 a0_0) ∧ w'.cell? ⟨gb205, 1, none⟩ = some (.int .i64 a0_1) ∧ w'.cell? ⟨gb206, 0, none⟩ = some (.int .i64 a1_0) ∧ w'.cell? ⟨gb206, 1, none⟩ = some (.int .i64 a1_1)) (ds := []) (bts0 7) (by kernel_rfl) rfl rfl ⟨(blk_cell BK205.out 0).trans rfl, (blk_cell BK205.out 1).trans rfl, (blk_cell BK206.out 0).trans rfl, (blk_cell BK206.out 1).trans rfl⟩ (fun hHeld => ?_)
  generalize w13.drew = w18 at HO209 BK205 BK206 HB hHeld ⊢
  refine ta 0 (some 14) (bts 7 1) (by kernel_rfl) hHeld ?_
  refine ta 2 (some 16) (bts 7 5) (by kernel_rfl) hHeld ?_
  refine one_ (i := 1) (N := some 15) (bts 7 7) rfl rfl (by kernel_rfl) (by decide) (fun K hK => ?_)
  refine goes_ Tryz.func44 (by kernel_rfl) rfl #[.agg #[.int .i64 a0_0, .int .i64 a0_1]] (by rfl) rfl rfl lz ?_
  with_reducible refine (deci_units.calls k a0_0 a0_1 t211 _ A15.out).mono ?_
  rintro e w19 ⟨rfl, hb⟩
  refine ⟨_, rfl, ?_⟩
  replace HO209 := am (Kd.R_below (rr HO209.out) hb)
  replace BK205 := kb BK205 hb
  replace BK206 := kb BK206 hb
  replace HB := sb HB hb
  (try clear hb)
  (try clear hb2)
  (try clear hk)
  (try clear hi)
  refine hK.out _ _ ⟨(blk_cell BK205.out 0).trans rfl, (blk_cell BK205.out 1).trans rfl, (blk_cell BK206.out 0).trans rfl, (blk_cell BK206.out 1).trans rfl⟩ (fun hHeld => ?_)
  clear hK K
  refine norm_ (a' := ?_) ?_ ?_
  rotate_left
  ·show Act.put _ (some 15) _ = _
   simp only [Act.put, List.setIfInBounds_toArray, List.set_cons_zero, List.set_cons_succ, i64_w, i32_w]
   rfl
  refine one_ (i := 3) (N := some 17) (bts 7 15) rfl rfl (by kernel_rfl) (by decide) (fun K hK => ?_)
  refine goes_ Tryz.func44 (by kernel_rfl) rfl #[.agg #[.int .i64 a1_0, .int .i64 a1_1]] (by rfl) rfl rfl lz ?_
  with_reducible refine (deci_units.calls k a1_0 a1_1 t212 _ A16.out).mono ?_
  rintro e w20 ⟨rfl, hb⟩
  refine ⟨_, rfl, ?_⟩
  replace HO209 := am (Kd.R_below (rr HO209.out) hb)
  replace BK205 := kb BK205 hb
  replace BK206 := kb BK206 hb
  replace HB := sb HB hb
  (try clear hb)
  (try clear hb2)
  (try clear hk)
  (try clear hi)
  refine hK.out _ _ ⟨(blk_cell BK205.out 0).trans rfl, (blk_cell BK205.out 1).trans rfl, (blk_cell BK206.out 0).trans rfl, (blk_cell BK206.out 1).trans rfl⟩ (fun hHeld => ?_)
  clear hK K
  refine norm_ (a' := ?_) ?_ ?_
  rotate_left
  ·show Act.put _ (some 17) _ = _
   simp only [Act.put, List.setIfInBounds_toArray, List.set_cons_zero, List.set_cons_succ, i64_w, i32_w]
   rfl
  refine one_ (i := 4) (N := some 18) (bts 7 31) rfl rfl (by kernel_rfl) (by decide) (fun K hK => ?_)
  refine goes_ Tryz.func54 (by kernel_rfl) rfl #[.int .i64 t211, .int .i64 t212] (by rfl) rfl rfl lz ?_
  with_reducible refine (cmp_Compare_int.calls t211 t212 t213 _ A17.out).mono ?_
  rintro e w' ⟨rfl, ⟨nd, rfl⟩⟩
  refine ⟨_, rfl, ?_⟩
  refine hK.out _ _ ⟨(blk_cell BK205.out 0).trans rfl, (blk_cell BK205.out 1).trans rfl, (blk_cell BK206.out 0).trans rfl, (blk_cell BK206.out 1).trans rfl⟩ (fun hHeld => ?_)
  clear hK K
  refine norm_ (a' := ?_) ?_ ?_
  rotate_left
  ·show Act.put _ (some 18) _ = _
   simp only [Act.put, List.setIfInBounds_toArray, List.set_cons_zero, List.set_cons_succ, i64_w, i32_w]
   rfl
  refine pu 5 (some 4) (bts 7 63) (by kernel_rfl) ?_
  refine pu 6 (some 5) (bts 7 127) (by kernel_rfl) ?_
  refine done_ (by kernel_rfl) ?_
  try go_wp2
  go_ret2
  exact ⟨az, bz HB.out⟩
 replace H := ine c14 H
 obtain ⟨H, c14b0, c14b1⟩ := H
 (first | rw [c14b0] | (simp only [i64_w, i32_w]; rw [c14b0]) | skip)
 simp only [Option.some.injEq, Prod.mk.injEq] at H
 obtain ⟨rfl, rfl⟩ := H
 go_wp2
 go_ret2
 exact ⟨az, bz HB.out⟩
end Go.Proofs.YtgkemhgihbfmmaaGreatDoor.PA
end
section
namespace Go.Proofs.YtgkemhgihbfmmaaGreatDoor.PA
open Go.RowKit Go.Proofs.YtgkemhgihbfmmaaGreatDoorW.PrintWords Go.Proofs.YtgkemhgihbfmmaaGreatDoorW.PrintLast Go.Proofs.YtgkemhgihbfmmaaGreatDoorW.PrintMore
attribute [local go_sem] max2_int min2_int max_two min_two max_three min_three max_four min_four isSome_set str_gtr
set_option linter.unusedVariables false
set_option linter.unusedSimpArgs false
def cmp_Or_int.l0 : Nat → Int → List Int → Int → Int → Option (Int)
 | 0, _, _, _, _ => none
 | k + 1, x3, x6, x7, x8 => if x8 < x7 then (if 0 ≤ x8 then (if x8 < (x6.length : Int) then (if (rd x6 x8) = x3 then (cmp_Or_int.l0 k x3 x6 x7 (wrap64 (x8 + 1))) else (some (rd x6 x8))) else (none)) else (none)) else (some x3)
def cmp_Or_int.f (k : Nat) (l0 : List Int) : Option (Int) := cmp_Or_int.l0 k 0 l0 (l0.length : Int) 0
theorem cmp_Or_int.mono_l : ∀ k, (∀ y0 y1 y2 y3, LeO (cmp_Or_int.l0 k y0 y1 y2 y3) (cmp_Or_int.l0 (k + 1) y0 y1 y2 y3))
 | 0 => fun _ _ _ _ r h => by simp [cmp_Or_int.l0] at h
 | k + 1 => by
  have ih0 := cmp_Or_int.mono_l k
  ·intro y0 y1 y2 y3
   unfold cmp_Or_int.l0
   exact lmo
theorem cmp_Or_int.mono : ∀ a0 k, LeO (cmp_Or_int.f k a0) (cmp_Or_int.f (k + 1) a0) := by
 intro a0 k
 have ih0 := cmp_Or_int.mono_l k
 unfold cmp_Or_int.f
 exact lmo
set_option maxHeartbeats 8000000 in
set_option maxRecDepth 100000 in
theorem cmp_Or_int.calls (k : Nat) (A0 : Option Addr) (c0 : Nat) (l0 : List Int) (r : Int) (w : World) (hr0 : Kd.C (Kd.int .i64) w A0 l0.length l0) (hc0 : l0.length ≤ c0) (h : cmp_Or_int.f k l0 = some r) :
  Calls Tryz.prog 142 #[.slice A0 l0.length c0] w fun e w' => e = .returned (.int .i64 r) ∧ Drawn0 w w' := by
 have HR0 := am hr0
 have HC0 := am hc0
 clear hr0 hc0
 have H : (cmp_Or_int.l0 k 0 l0 (l0.length : Int) 0) = some r := h
 clear h
 have H' := am H
 clear H
 go_enter Tryz.func142, Tryz.ntmps142
 go_wp2
 (try simp only [Act.put, List.setIfInBounds_toArray, List.set_cons_succ, List.set_cons_zero])
 go_loopg [8] k (fun kq v8 w' => ∃ (x8_1 : Int), v8 = .int .i64 x8_1 ∧ Aside0 (cmp_Or_int.l0 kq 0 l0 (l0.length : Int) x8_1 = some r) ∧ Aside0 (kq ≤ k) ∧ Drawn0 w w')
 case atStart => exact ⟨(0), sz, H', ⟨Nat.le_refl _⟩, dz⟩
 case round =>
  clear H'
  skip
  obtain ⟨x8_1, rfl, HA, HK1, ⟨m1, rfl⟩⟩ := hrel
  cases gk with
  | zero => exact absurd HA.out (by simp [cmp_Or_int.l0])
  | succ k1 =>
   have H := HA.out
   clear HA
   simp only [cmp_Or_int.l0] at H
   by_cases c2 : x8_1 < (l0.length : Int)
   ·rw [if_pos c2] at H
    have c2b0 : decide (x8_1 < (l0.length : Int)) = true := decide_eq_true c2
    clear c2
    by_cases c3 : 0 ≤ x8_1
    ·rw [if_pos c3] at H
     have c3b0 : decide (0 ≤ x8_1) = true := decide_eq_true c3
     clear c3
     by_cases c4 : x8_1 < (l0.length : Int)
     ·rw [if_pos c4] at H
      have c4b0 : decide (x8_1 < (l0.length : Int)) = true := decide_eq_true c4
      clear c4
      have HC5 := am H
      clear H
      have p214 : 0 ≤ (x8_1 : Int) := of_decide_eq_true tz
      have q214 : x8_1 < (l0.length : Int) := of_decide_eq_true tz
      obtain ⟨ad214, e214, hx214_0⟩ := Kd.at_int HR0.out x8_1 p214 q214
      cases e214
      replace p214 := eq_true p214
      replace q214 := eq_true q214
      go_upto_if 14 with (fail)
      have H := HC5.out
      clear HC5
      clear hx214_0
      by_cases c6 : (rd l0 x8_1) = 0
      ·replace H := ipe c6 H
       obtain ⟨H, c6b0, c6b1⟩ := H
       clear c6
       (first | rw [c6b0] | (simp only [i64_w, i32_w]; rw [c6b0]) | skip)
       have H' := am H
       clear H
       go_wp2
       go_roundg k1
       case measure => have := HK1.out; omega
       case rel => exact ⟨(wrap64 (x8_1 + 1)), sz, H', ⟨by have := HK1.out; omega⟩, dz⟩
      replace H := ine c6 H
      obtain ⟨H, c6b0, c6b1⟩ := H
      (first | rw [c6b0] | (simp only [i64_w, i32_w]; rw [c6b0]) | skip)
      obtain rfl := Option.some.inj H
      go_wp2
      go_ret
      exact ⟨sz, dz⟩
     rw [if_neg c4] at H
     exact absurd H (by simp)
    rw [if_neg c3] at H
    exact absurd H (by simp)
   rw [if_neg c2] at H
   have c2b0 : decide (x8_1 < (l0.length : Int)) = false := decide_eq_false c2
   clear c2
   obtain rfl := Option.some.inj H
   go_wp2
   go_ret
   exact ⟨sz, dz⟩
end Go.Proofs.YtgkemhgihbfmmaaGreatDoor.PA
end
section
namespace Go.Proofs.YtgkemhgihbfmmaaGreatDoor.PA
open Go.RowKit Go.Proofs.YtgkemhgihbfmmaaGreatDoorW.PrintWords Go.Proofs.YtgkemhgihbfmmaaGreatDoorW.PrintLast Go.Proofs.YtgkemhgihbfmmaaGreatDoorW.PrintMore
attribute [local go_sem] max2_int min2_int max_two min_two max_three min_three max_four min_four isSome_set str_gtr
set_option linter.unusedVariables false
set_option linter.unusedSimpArgs false
def cmp_isNaN_string.f (a0 : ByteArray) : Option (Bool) := some (a0.toList != a0.toList)
set_option maxHeartbeats 8000000 in
set_option maxRecDepth 100000 in
theorem cmp_isNaN_string.calls (a0 : ByteArray) (r : Bool) (w : World) (h : cmp_isNaN_string.f a0 = some r) :
  Calls Tryz.prog 191 #[.string a0] w fun e w' => e = .returned (.bool r) ∧ Drawn0 w w' := by
 have H : (some (a0.toList != a0.toList)) = some r := h
 clear h
 obtain rfl := Option.some.inj H
 go_enter Tryz.func191, Tryz.ntmps191
 go_wp2
 go_ret
 exact ⟨sz, dz⟩
end Go.Proofs.YtgkemhgihbfmmaaGreatDoor.PA
end
section
namespace Go.Proofs.YtgkemhgihbfmmaaGreatDoor.PA
open Go.RowKit Go.Proofs.YtgkemhgihbfmmaaGreatDoorW.PrintWords Go.Proofs.YtgkemhgihbfmmaaGreatDoorW.PrintLast Go.Proofs.YtgkemhgihbfmmaaGreatDoorW.PrintMore
attribute [local go_sem] max2_int min2_int max_two min_two max_three min_three max_four min_four isSome_set str_gtr
set_option linter.unusedVariables false
set_option linter.unusedSimpArgs false
def cmp_Compare_string.f (a0 : ByteArray) (a1 : ByteArray) : Option (Int) := (cmp_isNaN_string.f a0).bind fun t215 => ((cmp_isNaN_string.f a1).bind fun t216 => (if t215 = true then (if t216 = true then (some 0) else (some (-1))) else (if t216 = true then (some 1) else (if (Op.bytesLess a0.toList a1.toList) = true then (some (-1)) else (if (Op.bytesLess a1.toList a0.toList) = true then (some 1) else (some 0))))))
set_option maxHeartbeats 8000000 in
set_option maxRecDepth 100000 in
theorem cmp_Compare_string.calls (a0 : ByteArray) (a1 : ByteArray) (r : Int) (w : World) (h : cmp_Compare_string.f a0 a1 = some r) :
  Calls Tryz.prog 143 #[.string a0, .string a1] w fun e w' => e = .returned (.int .i64 r) ∧ Drawn0 w w' := by
 have H : ((cmp_isNaN_string.f a0).bind fun t215 => ((cmp_isNaN_string.f a1).bind fun t216 => (if t215 = true then (if t216 = true then (some 0) else (some (-1))) else (if t216 = true then (some 1) else (if (Op.bytesLess a0.toList a1.toList) = true then (some (-1)) else (if (Op.bytesLess a1.toList a0.toList) = true then (some 1) else (some 0))))))) = some r := h
 clear h
 replace H := obe H
 obtain ⟨t215, A3, H⟩ := H
 replace H := obe H
 obtain ⟨t216, A4, H⟩ := H
 have HC5 := am H
 clear H
 go_enter Tryz.func143, Tryz.ntmps143
 go_upto_if 11 with (first | ((with_reducible refine gate_callee (f := 191) rfl ?_); refine gl_ (some 8) Tryz.func191 (by kernel_rfl) #[.string a0] rfl ?_; (with_reducible refine (cmp_isNaN_string.calls a0 t215 _ A3.out).mono ?_); rintro e w' ⟨rfl, ⟨nd, rfl⟩⟩; refine ⟨_, rfl, ?_⟩) | ((with_reducible refine gate_callee (f := 191) rfl ?_); refine gl_ (some 10) Tryz.func191 (by kernel_rfl) #[.string a1] rfl ?_; (with_reducible refine (cmp_isNaN_string.calls a1 t216 _ A4.out).mono ?_); rintro e w' ⟨rfl, ⟨nd, rfl⟩⟩; refine ⟨_, rfl, ?_⟩))
 (try simp only [Act.put, List.setIfInBounds_toArray, List.set_cons_zero, List.set_cons_succ])
 have H := HC5.out
 clear HC5
 by_cases c6 : t215 = true
 ·subst c6
  replace H := ift H
  by_cases c7 : t216 = true
  ·subst c7
   replace H := ift H
   obtain rfl := Option.some.inj H
   go_wp2
   go_ret
   exact ⟨sz, dz⟩
  replace c7 := Bool.eq_false_iff.mpr c7
  subst c7
  replace H := iff_ H
  obtain rfl := Option.some.inj H
  go_wp2
  go_ret
  exact ⟨sz, dz⟩
 replace c6 := Bool.eq_false_iff.mpr c6
 subst c6
 replace H := iff_ H
 by_cases c8 : t216 = true
 ·subst c8
  replace H := ift H
  obtain rfl := Option.some.inj H
  go_wp2
  go_ret
  exact ⟨sz, dz⟩
 replace c8 := Bool.eq_false_iff.mpr c8
 subst c8
 replace H := iff_ H
 by_cases c9 : (Op.bytesLess a0.toList a1.toList) = true
 ·rw [if_pos c9] at H
  have c9b0 : (Op.bytesLess a0.toList a1.toList) = true := c9
  clear c9
  (first | rw [c9b0] | (simp only [i64_w, i32_w]; rw [c9b0]) | skip)
  obtain rfl := Option.some.inj H
  go_wp2
  go_ret
  exact ⟨sz, dz⟩
 rw [if_neg c9] at H
 have c9b0 : (Op.bytesLess a0.toList a1.toList) = false := by simpa using c9
 clear c9
 (first | rw [c9b0] | (simp only [i64_w, i32_w]; rw [c9b0]) | skip)
 by_cases c10 : (Op.bytesLess a1.toList a0.toList) = true
 ·rw [if_pos c10] at H
  have c10b0 : (Op.bytesLess a1.toList a0.toList) = true := c10
  clear c10
  obtain rfl := Option.some.inj H
  go_wp2
  go_ret
  exact ⟨sz, dz⟩
 rw [if_neg c10] at H
 have c10b0 : (Op.bytesLess a1.toList a0.toList) = false := by simpa using c10
 clear c10
 obtain rfl := Option.some.inj H
 go_wp2
 go_ret
 exact ⟨sz, dz⟩
end Go.Proofs.YtgkemhgihbfmmaaGreatDoor.PA
end
section
namespace Go.Proofs.YtgkemhgihbfmmaaGreatDoor.PA
open Go.RowKit Go.Proofs.YtgkemhgihbfmmaaGreatDoorW.PrintWords Go.Proofs.YtgkemhgihbfmmaaGreatDoorW.PrintLast Go.Proofs.YtgkemhgihbfmmaaGreatDoorW.PrintMore
attribute [local go_sem] max2_int min2_int max_two min_two max_three min_three max_four min_four isSome_set str_gtr
set_option linter.unusedVariables false
set_option linter.unusedSimpArgs false
def value_order.f (k : Nat) (a0_0 a0_1 a0_2 : Int) (a0_3 : ByteArray) (a0_4 a1_0 a1_1 a1_2 : Int) (a1_3 : ByteArray) (a1_4 : Int) : Option (Int) := if a0_0 = a1_0 then (if a0_0 = 1 then ((deci_Compare.f k a0_1 a0_2 a1_1 a1_2).bind fun bt220 => (some bt220.1)) else ((cmp_Compare_string.f a0_3 a1_3).bind fun t222 => ((cmp_Compare_int.f a0_4 a1_4).bind fun t223 => ((cmp_Or_int.f k (([t222, t223] : List Int))).bind fun t227 => (some t227))))) else ((cmp_Compare_int.f a0_0 a1_0).bind fun t219 => (some t219))
theorem value_order.mono : ∀ a0 a1 a2 a3 a4 a5 a6 a7 a8 a9 k, LeO (value_order.f k a0 a1 a2 a3 a4 a5 a6 a7 a8 a9) (value_order.f (k + 1) a0 a1 a2 a3 a4 a5 a6 a7 a8 a9) := by
 intro a0 a1 a2 a3 a4 a5 a6 a7 a8 a9 k
 unfold value_order.f
 have q0 := @cmp_Or_int.mono; have q1 := @deci_Compare.mono; exact lmo
def value_order.T6 : Bool × List (List Nat × List Nat) := (true, [([], []), ([0], [0]), ([], []), ([2], [2]), ([1, 3], [1, 3]), ([], []), ([5], [5]), ([], []), ([7], [7]), ([6, 8, 4], [6, 8]), ([4, 9], [4, 9]), ([10, 9], [10]), ([11, 11, 0, 1, 2, 3, 4, 5, 6, 7, 8, 9, 10, 11], [11])])
def value_order.B6 : List Nat := [0, 1, 0, 4, 15, 0, 32, 0, 128, 511, 1023, 2047, 4095]
theorem value_order.tab6 : rtab .any (opsOf Tryz.f104 6) = value_order.T6 := by kernel_rfl
theorem value_order.bits6 : waitsOk value_order.T6.2 value_order.B6 = true := by kernel_rfl
set_option maxHeartbeats 8000000 in
set_option maxRecDepth 100000 in
theorem value_order.calls (k : Nat) (a0_0 a0_1 a0_2 : Int) (a0_3 : ByteArray) (a0_4 a1_0 a1_1 a1_2 : Int) (a1_3 : ByteArray) (a1_4 r : Int) (w : World) (h : value_order.f k a0_0 a0_1 a0_2 a0_3 a0_4 a1_0 a1_1 a1_2 a1_3 a1_4 = some r) :
  Calls Tryz.prog 104 #[.agg #[.int .i64 a0_0, .int .i64 a0_1, .int .i64 a0_2, .string a0_3, .int .i64 a0_4], .agg #[.int .i64 a1_0, .int .i64 a1_1, .int .i64 a1_2, .string a1_3, .int .i64 a1_4]] w fun e w' => e = .returned (.int .i64 r) ∧ Below w.heap.size w w' := by
 have hu25 := Tryz.underlying25
 have hu23 := Tryz.underlying23
 have HB := am (Below.refl w.heap.size w)
 have H : (if a0_0 = a1_0 then (if a0_0 = 1 then ((deci_Compare.f k a0_1 a0_2 a1_1 a1_2).bind fun bt220 => (some bt220.1)) else ((cmp_Compare_string.f a0_3 a1_3).bind fun t222 => ((cmp_Compare_int.f a0_4 a1_4).bind fun t223 => ((cmp_Or_int.f k (([t222, t223] : List Int))).bind fun t227 => (some t227))))) else ((cmp_Compare_int.f a0_0 a1_0).bind fun t219 => (some t219))) = some r := h
 clear h
 have HC3 := am H
 clear H
 go_enter Tryz.func104, Tryz.ntmps104
 go_upto_if 11 with (first | ((with_reducible refine gate_dst (N := 2) rfl ?_); refine bev (#[.int .i64 a0_0, .int .i64 a0_1, .int .i64 a0_2, .string a0_3, .int .i64 a0_4]) 25 ?_; intro gb217 hg w4 hbox hb; have BK217 := am (hbox); have GW217 := gs hg HB; have GE217 := GW217; replace HB := sb HB hb; clear hb hbox hg) | ((with_reducible refine gate_dst (N := 3) rfl ?_); refine bev (#[.int .i64 a1_0, .int .i64 a1_1, .int .i64 a1_2, .string a1_3, .int .i64 a1_4]) 25 ?_; intro gb218 hg w5 hbox hb; have BK218 := am (hbox); have GW218 := gs hg HB; have GE218 := GW218; replace HB := sb HB hb; have NB217_218 := na hg BK217; have NB218_217 := nb hg BK217; replace BK217 := kb BK217 hb; clear hb hbox hg; have hnb6 := NB217_218.out; have hnc6 := NB218_217.out; obtain ⟨Z7_0, Z7_1, Z7_2, Z7_3, Z7_4, F7_0, F7_1, F7_2, F7_3, F7_4⟩ := cz5 BK217.out; obtain ⟨Z8_0, Z8_1, Z8_2, Z8_3, Z8_4, F8_0, F8_1, F8_2, F8_3, F8_4⟩ := cz5 BK218.out))
 (try simp only [Act.put, List.setIfInBounds_toArray, List.set_cons_zero, List.set_cons_succ])
 have H := HC3.out
 clear HC3
 clear Z7_0 Z7_1 Z7_2 Z7_3 Z7_4 F7_0 F7_1 F7_2 F7_3 F7_4 Z8_0 Z8_1 Z8_2 Z8_3 Z8_4 F8_0 F8_1 F8_2 F8_3 F8_4
 by_cases c9 : a0_0 = a1_0
 ·replace H := ipe c9 H
  obtain ⟨H, c9b0, c9b1⟩ := H
  clear c9
  (first | rw [c9b0] | (simp only [i64_w, i32_w]; rw [c9b0]) | skip)
  have HC10 := am H
  clear H
  have hnb11 := NB217_218.out
  have hnc11 := NB218_217.out
  obtain ⟨Z12_0, Z12_1, Z12_2, Z12_3, Z12_4, F12_0, F12_1, F12_2, F12_3, F12_4⟩ := cz5 BK217.out
  go_upto_if 19 with (fail)
  have H := HC10.out
  clear HC10
  clear Z12_0 Z12_1 Z12_2 Z12_3 Z12_4 F12_0 F12_1 F12_2 F12_3 F12_4
  by_cases c13 : a0_0 = 1
  ·replace H := ipe c13 H
   obtain ⟨H, c13b0, c13b1⟩ := H
   clear c13
   (first | rw [c13b0] | (simp only [i64_w, i32_w]; rw [c13b0]) | skip)
   replace H := obe2 H
   obtain ⟨t220, t221, A14, H⟩ := H
   obtain rfl := Option.some.inj H
   have hnb15 := NB217_218.out
   have hnc15 := NB218_217.out
   obtain ⟨Z16_0, Z16_1, Z16_2, Z16_3, Z16_4, F16_0, F16_1, F16_2, F16_3, F16_4⟩ := cz5 BK217.out
   obtain ⟨Z17_0, Z17_1, Z17_2, Z17_3, Z17_4, F17_0, F17_1, F17_2, F17_3, F17_4⟩ := cz5 BK218.out
   go_wp2_with (first | ((with_reducible refine gate_callee (f := 20) rfl ?_); refine gl_ (some 25) Tryz.func20 (by kernel_rfl) #[.agg #[.int .i64 a0_1, .int .i64 a0_2], .agg #[.int .i64 a1_1, .int .i64 a1_2]] rfl ?_; (with_reducible refine (deci_Compare.calls k a0_1 a0_2 a1_1 a1_2 t220 t221 _ A14.out).mono ?_); rintro e w18 ⟨rfl, hb⟩; refine ⟨_, rfl, ?_⟩; replace BK217 := kb BK217 hb; replace BK218 := kb BK218 hb; replace HB := sb HB hb; clear hb))
   go_ret
   exact ⟨az, bz HB.out⟩
  replace H := ine c13 H
  obtain ⟨H, c13b0, c13b1⟩ := H
  (first | rw [c13b0] | (simp only [i64_w, i32_w]; rw [c13b0]) | skip)
  replace H := obe H
  obtain ⟨t222, A19, H⟩ := H
  replace H := obe H
  obtain ⟨t223, A20, H⟩ := H
  obtain ⟨y224, hy224⟩ : ∃ y_ : List Int, y_ = (([t222, t223] : List Int)) := ⟨_, rfl⟩
  replace H : ((cmp_Or_int.f k y224).bind fun t227 => (some t227)) = some r := by first | (rw [hy224]; with_reducible exact H) | (have H2_ := (Option.bind_some _ _).symm.trans H; rw [hy224]; with_reducible exact H2_) | (have H2_ := (Option.bind_some _ _).symm.trans H; with_reducible exact H2_) | with_reducible exact H | (rw [hy224]; exact H) | exact H
  have Ny224 := am hy224
  clear hy224
  replace H := obe H
  obtain ⟨t227, A21, H⟩ := H
  obtain rfl := Option.some.inj H
  try go_wp2
  replace BK217 := am (blk_drew BK217.out)
  replace BK218 := am (blk_drew BK218.out)
  replace HB := am (below_drew1 HB.out)
  refine start_ (n := 13) (S := fun w' => w'.cell? ⟨gb217, 0, none⟩ = some (.int .i64 a0_0) ∧ w'.cell? ⟨gb217, 1, none⟩ = some (.int .i64 a0_1) ∧ w'.cell? ⟨gb217, 2, none⟩ = some (.int .i64 a0_2) ∧ w'.cell? ⟨gb217, 3, none⟩ = some (.string a0_3) ∧ w'.cell? ⟨gb217, 4, none⟩ = some (.int .i64 a0_4) ∧ w'.cell? ⟨gb218, 0, none⟩ = some (.int .i64 a1_0) ∧ w'.cell? ⟨gb218, 1, none⟩ = some (.int .i64 a1_1) ∧ w'.cell? ⟨gb218, 2, none⟩ = some (.int .i64 a1_2) ∧ w'.cell? ⟨gb218, 3, none⟩ = some (.string a1_3) ∧ w'.cell? ⟨gb218, 4, none⟩ = some (.int .i64 a1_4)) (ds := []) (bts0 13) (by kernel_rfl) rfl rfl ⟨(blk_cell BK217.out 0).trans rfl, (blk_cell BK217.out 1).trans rfl, (blk_cell BK217.out 2).trans rfl, (blk_cell BK217.out 3).trans rfl, (blk_cell BK217.out 4).trans rfl, (blk_cell BK218.out 0).trans rfl, (blk_cell BK218.out 1).trans rfl, (blk_cell BK218.out 2).trans rfl, (blk_cell BK218.out 3).trans rfl, (blk_cell BK218.out 4).trans rfl⟩ (fun hHeld => ?_); refine with_tabW value_order.tab6 value_order.bits6 (fun HT_ HW_ => ?_)
  generalize w5.drew = w22 at BK217 BK218 HB hHeld ⊢
  refine pu 0 (some 29) (bts 13 1) (any_of HT_.out (by kernel_rfl)) ?_
  refine pu 2 (some 31) (bts 13 5) (any_of HT_.out (by kernel_rfl)) ?_
  refine pu 5 (some 34) (bts 13 37) (any_of HT_.out (by kernel_rfl)) ?_
  refine pu 7 (some 36) (bts 13 165) (any_of HT_.out (by kernel_rfl)) ?_
  refine ta 1 (some 30) (bts 13 167) (take_ofW HT_.out HW_.out (by kernel_rfl)) hHeld ?_
  refine ta 3 (some 32) (bts 13 175) (take_ofW HT_.out HW_.out (by kernel_rfl)) hHeld ?_
  refine ta 6 (some 35) (bts 13 239) (take_ofW HT_.out HW_.out (by kernel_rfl)) hHeld ?_
  refine ta 8 (some 37) (bts 13 495) (take_ofW HT_.out HW_.out (by kernel_rfl)) hHeld ?_
  refine one_ (i := 4) (N := some 33) (bts 13 511) rfl rfl (one_of HT_.out (by kernel_rfl)) (by decide) (fun K hK => ?_)
  refine goes_ Tryz.func143 (by kernel_rfl) rfl #[.string a0_3, .string a1_3] (by rfl) rfl rfl lz ?_
  with_reducible refine (cmp_Compare_string.calls a0_3 a1_3 t222 _ A19.out).mono ?_
  rintro e w' ⟨rfl, ⟨nd, rfl⟩⟩
  refine ⟨_, rfl, ?_⟩
  refine hK.out _ _ ⟨(blk_cell BK217.out 0).trans rfl, (blk_cell BK217.out 1).trans rfl, (blk_cell BK217.out 2).trans rfl, (blk_cell BK217.out 3).trans rfl, (blk_cell BK217.out 4).trans rfl, (blk_cell BK218.out 0).trans rfl, (blk_cell BK218.out 1).trans rfl, (blk_cell BK218.out 2).trans rfl, (blk_cell BK218.out 3).trans rfl, (blk_cell BK218.out 4).trans rfl⟩ (fun hHeld => ?_)
  clear hK K
  refine norm_ (a' := ?_) ?_ ?_
  rotate_left
  ·show Act.put _ (some 33) _ = _
   simp only [Act.put, List.setIfInBounds_toArray, List.set_cons_zero, List.set_cons_succ, i64_w, i32_w]
   rfl
  refine one_ (i := 9) (N := some 38) (bts 13 1023) rfl rfl (one_of HT_.out (by kernel_rfl)) (by decide) (fun K hK => ?_)
  refine goes_ Tryz.func54 (by kernel_rfl) rfl #[.int .i64 a0_4, .int .i64 a1_4] (by rfl) rfl rfl lz ?_
  with_reducible refine (cmp_Compare_int.calls a0_4 a1_4 t223 _ A20.out).mono ?_
  rintro e w' ⟨rfl, ⟨nd, rfl⟩⟩
  refine ⟨_, rfl, ?_⟩
  refine hK.out _ _ ⟨(blk_cell BK217.out 0).trans rfl, (blk_cell BK217.out 1).trans rfl, (blk_cell BK217.out 2).trans rfl, (blk_cell BK217.out 3).trans rfl, (blk_cell BK217.out 4).trans rfl, (blk_cell BK218.out 0).trans rfl, (blk_cell BK218.out 1).trans rfl, (blk_cell BK218.out 2).trans rfl, (blk_cell BK218.out 3).trans rfl, (blk_cell BK218.out 4).trans rfl⟩ (fun hHeld => ?_)
  clear hK K
  refine norm_ (a' := ?_) ?_ ?_
  rotate_left
  ·show Act.put _ (some 38) _ = _
   simp only [Act.put, List.setIfInBounds_toArray, List.set_cons_zero, List.set_cons_succ, i64_w, i32_w]
   rfl
  refine one_ (i := 10) (N := some 39) (bts 13 2047) rfl rfl (one_of HT_.out (by kernel_rfl)) (by decide) (fun K hK => ?_)
  refine Kd.R_lit_step (Kd.int .i64) _ 3 ?hg (N := 39) ?hd (xs := ([t222, t223] : List Int)) (inner := [.int .i64 t222, .int .i64 t223]) (ok := fun _ => True) (okp := fun _ => True) ?hr ?hp (fun _ hk => hk) trivial (Below.refl _ _) (Nat.le_refl _) (by simp) ?_; (case hd => rfl); (case hg => rfl); (case hr => first | (go_simp; done) | (go_simp; rfl)); (case hp => exact (Reps.one (show Kd.M (Kd.int .i64) _ _ _ t222 [.int .i64 t222] from rfl) (Reps.one (show Kd.M (Kd.int .i64) _ _ _ t223 [.int .i64 t223] from rfl) (Reps.none _ _))))
  intro v225 w23 ho24 hb hg_ hnew_
  clear hg_ hnew_
  (first | rw [← Ny224.out] at ho24 | (simp only [Int.reduceToNat] at ho24; rw [← Ny224.out] at ho24))
  have HO226 := am (Kd.R_lower ho24 (below_size (bz HB.out)))
  replace BK217 := kb BK217 hb
  replace BK218 := kb BK218 hb
  replace HB := sb HB hb
  clear hb ho24
  obtain ⟨Ao25, co25, eo25⟩ := Kd.R_slice HO226.out
  (first | subst eo25 | (injection eo25 with f1_ f2_ f3_; have f4_ := f1_.symm; have f5_ := f3_.symm; clear f1_ f2_ f3_; subst f4_; subst f5_))
  refine hK.out _ _ ⟨(blk_cell BK217.out 0).trans rfl, (blk_cell BK217.out 1).trans rfl, (blk_cell BK217.out 2).trans rfl, (blk_cell BK217.out 3).trans rfl, (blk_cell BK217.out 4).trans rfl, (blk_cell BK218.out 0).trans rfl, (blk_cell BK218.out 1).trans rfl, (blk_cell BK218.out 2).trans rfl, (blk_cell BK218.out 3).trans rfl, (blk_cell BK218.out 4).trans rfl⟩ (fun hHeld => ?_)
  clear hK K
  refine norm_ (a' := ?_) ?_ ?_
  rotate_left
  ·show Act.put _ (some 39) _ = _
   simp only [Act.put, List.setIfInBounds_toArray, List.set_cons_zero, List.set_cons_succ, i64_w, i32_w]
   rfl
  refine one_ (i := 11) (N := some 40) (bts 13 4095) rfl rfl (one_of HT_.out (by kernel_rfl)) (by decide) (fun K hK => ?_)
  refine goes_ Tryz.func142 (by kernel_rfl) rfl #[.slice Ao25 y224.length co25] (by rfl) rfl rfl lz ?_
  with_reducible refine (cmp_Or_int.calls k _ _ y224 t227 _ ?side1 ?side2 A21.out).mono ?_
  (case side1 => repeat (first | exact (Kd.R_reads' HO226.out).2.2 | (with_reducible refine Kd.C_alloc ?_ _) | (with_reducible refine Kd.C_drewN ?_ _) | (with_reducible refine Kd.C_drew ?_)))
  (case side2 => exact (Kd.R_reads' HO226.out).2.1)
  rintro e w' ⟨rfl, ⟨nd, rfl⟩⟩
  refine ⟨_, rfl, ?_⟩
  refine hK.out _ _ ⟨(blk_cell BK217.out 0).trans rfl, (blk_cell BK217.out 1).trans rfl, (blk_cell BK217.out 2).trans rfl, (blk_cell BK217.out 3).trans rfl, (blk_cell BK217.out 4).trans rfl, (blk_cell BK218.out 0).trans rfl, (blk_cell BK218.out 1).trans rfl, (blk_cell BK218.out 2).trans rfl, (blk_cell BK218.out 3).trans rfl, (blk_cell BK218.out 4).trans rfl⟩ (fun hHeld => ?_)
  clear hK K
  refine norm_ (a' := ?_) ?_ ?_
  rotate_left
  ·show Act.put _ (some 40) _ = _
   simp only [Act.put, List.setIfInBounds_toArray, List.set_cons_zero, List.set_cons_succ, i64_w, i32_w]
   rfl
  refine pu 12 (some 4) (bts 13 8191) (any_of HT_.out (by kernel_rfl)) ?_
  refine done_ (done_of HT_.out (by kernel_rfl)) ?_
  try go_wp2
  go_ret
  exact ⟨az, bz HB.out⟩
 replace H := ine c9 H
 obtain ⟨H, c9b0, c9b1⟩ := H
 (first | rw [c9b0] | (simp only [i64_w, i32_w]; rw [c9b0]) | skip)
 replace H := obe H
 obtain ⟨t219, A26, H⟩ := H
 obtain rfl := Option.some.inj H
 have hnb27 := NB217_218.out
 have hnc27 := NB218_217.out
 obtain ⟨Z28_0, Z28_1, Z28_2, Z28_3, Z28_4, F28_0, F28_1, F28_2, F28_3, F28_4⟩ := cz5 BK217.out
 obtain ⟨Z29_0, Z29_1, Z29_2, Z29_3, Z29_4, F29_0, F29_1, F29_2, F29_3, F29_4⟩ := cz5 BK218.out
 go_wp2_with (first | ((with_reducible refine gate_callee (f := 54) rfl ?_); refine gl_ (some 16) Tryz.func54 (by kernel_rfl) #[.int .i64 a0_0, .int .i64 a1_0] rfl ?_; (with_reducible refine (cmp_Compare_int.calls a0_0 a1_0 t219 _ A26.out).mono ?_); rintro e w' ⟨rfl, ⟨nd, rfl⟩⟩; refine ⟨_, rfl, ?_⟩))
 go_ret
 exact ⟨az, bz HB.out⟩
end Go.Proofs.YtgkemhgihbfmmaaGreatDoor.PA
end
section
namespace Go.Proofs.YtgkemhgihbfmmaaGreatDoor.PA
open Go.RowKit Go.Proofs.YtgkemhgihbfmmaaGreatDoorW.PrintWords Go.Proofs.YtgkemhgihbfmmaaGreatDoorW.PrintLast Go.Proofs.YtgkemhgihbfmmaaGreatDoorW.PrintMore
attribute [local go_sem] max2_int min2_int max_two min_two max_three min_three max_four min_four isSome_set str_gtr
set_option linter.unusedVariables false
set_option linter.unusedSimpArgs false
def value_Compare.f (k : Nat) (a0_0 a0_1 a0_2 : Int) (a0_3 : ByteArray) (a0_4 a1_0 a1_1 a1_2 : Int) (a1_3 : ByteArray) (a1_4 : Int) : Option (Int × Int) := (value_Sound.f k a0_0 a0_1 a0_2 a0_3 a0_4).bind fun t230 => (if t230 = true then ((value_Sound.f k a1_0 a1_1 a1_2 a1_3 a1_4).bind fun t231 => (if t231 = true then ((value_order.f k a0_0 a0_1 a0_2 a0_3 a0_4 a1_0 a1_1 a1_2 a1_3 a1_4).bind fun t232 => (some (t232, 0))) else (some (0, 2)))) else (some (0, 2)))
theorem value_Compare.mono : ∀ a0 a1 a2 a3 a4 a5 a6 a7 a8 a9 k, LeO (value_Compare.f k a0 a1 a2 a3 a4 a5 a6 a7 a8 a9) (value_Compare.f (k + 1) a0 a1 a2 a3 a4 a5 a6 a7 a8 a9) := by
 intro a0 a1 a2 a3 a4 a5 a6 a7 a8 a9 k
 unfold value_Compare.f
 have q0 := @value_Sound.mono; have q1 := @value_order.mono; exact lmo
set_option maxHeartbeats 8000000 in
set_option maxRecDepth 100000 in
theorem value_Compare.calls (k : Nat) (a0_0 a0_1 a0_2 : Int) (a0_3 : ByteArray) (a0_4 a1_0 a1_1 a1_2 : Int) (a1_3 : ByteArray) (a1_4 r1 r2 : Int) (w : World) (hT : Tabs w) (h : value_Compare.f k a0_0 a0_1 a0_2 a0_3 a0_4 a1_0 a1_1 a1_2 a1_3 a1_4 = some (r1, r2)) :
  Calls Tryz.prog 61 #[.agg #[.int .i64 a0_0, .int .i64 a0_1, .int .i64 a0_2, .string a0_3, .int .i64 a0_4], .agg #[.int .i64 a1_0, .int .i64 a1_1, .int .i64 a1_2, .string a1_3, .int .i64 a1_4]] w fun e w' => e = .returned (.tuple #[.int .i64 r1, .int .i64 r2]) ∧ Below w.heap.size w w' := by
 have hu25 := Tryz.underlying25
 have HT := am hT
 clear hT
 have HB := am (Below.refl w.heap.size w)
 have H : ((value_Sound.f k a0_0 a0_1 a0_2 a0_3 a0_4).bind fun t230 => (if t230 = true then ((value_Sound.f k a1_0 a1_1 a1_2 a1_3 a1_4).bind fun t231 => (if t231 = true then ((value_order.f k a0_0 a0_1 a0_2 a0_3 a0_4 a1_0 a1_1 a1_2 a1_3 a1_4).bind fun t232 => (some (t232, 0))) else (some (0, 2)))) else (some (0, 2)))) = some (r1, r2) := h
 clear h
 have HC3 := am H
 clear H
 go_enter Tryz.func61, Tryz.ntmps61
 go_upto_region 1 with (first | ((with_reducible refine gate_dst (N := 2) rfl ?_); refine bev (#[.int .i64 a0_0, .int .i64 a0_1, .int .i64 a0_2, .string a0_3, .int .i64 a0_4]) 25 ?_; intro gb228 hg w4 hbox hb; have BK228 := am (hbox); have GW228 := gs hg HB; have GE228 := GW228; replace HB := sb HB hb; clear hb hbox hg) | ((with_reducible refine gate_dst (N := 3) rfl ?_); refine bev (#[.int .i64 a1_0, .int .i64 a1_1, .int .i64 a1_2, .string a1_3, .int .i64 a1_4]) 25 ?_; intro gb229 hg w5 hbox hb; have BK229 := am (hbox); have GW229 := gs hg HB; have GE229 := GW229; replace HB := sb HB hb; have NB228_229 := na hg BK228; have NB229_228 := nb hg BK228; replace BK228 := kb BK228 hb; clear hb hbox hg))
 (try simp only [Act.put, List.setIfInBounds_toArray, List.set_cons_zero, List.set_cons_succ])
 have H := HC3.out
 clear HC3
 replace H := obe H
 obtain ⟨t230, A6, H⟩ := H
 by_cases c7 : t230 = true
 ·subst c7
  replace H := ift H
  replace H := obe H
  obtain ⟨t231, A8, H⟩ := H
  have HC9 := am H
  clear H
  have hnb10 := NB228_229.out
  have hnc10 := NB229_228.out
  obtain ⟨Z11_0, Z11_1, Z11_2, Z11_3, Z11_4, F11_0, F11_1, F11_2, F11_3, F11_4⟩ := cz5 BK228.out
  go_upto_if 13 with (first | ((with_reducible refine gate_callee (f := 38) rfl ?_); refine gl_ (some 7) Tryz.func38 (by kernel_rfl) #[.agg #[.int .i64 a0_0, .int .i64 a0_1, .int .i64 a0_2, .string a0_3, .int .i64 a0_4]] rfl ?_; (with_reducible refine (value_Sound.calls k a0_0 a0_1 a0_2 a0_3 a0_4 true _ ?side1 A6.out).mono ?_); (case side1 => exact tabs_of HT.out (bz HB.out)); rintro e w12 ⟨rfl, hb⟩; refine ⟨_, rfl, ?_⟩; replace BK228 := kb BK228 hb; replace BK229 := kb BK229 hb; replace HB := sb HB hb; clear hb; obtain ⟨Z13_0, Z13_1, Z13_2, Z13_3, Z13_4, F13_0, F13_1, F13_2, F13_3, F13_4⟩ := cz5 BK229.out) | (go_at_call 38; (with_reducible refine (value_Sound.calls k a1_0 a1_1 a1_2 a1_3 a1_4 t231 _ ?side1 A8.out).mono ?_); (case side1 => exact tabs_of HT.out (bz HB.out)); rintro e w14 ⟨rfl, hb⟩; replace BK228 := kb BK228 hb; replace BK229 := kb BK229 hb; replace HB := sb HB hb; clear hb))
  (try simp only [Act.put, List.setIfInBounds_toArray, List.set_cons_zero, List.set_cons_succ])
  have H := HC9.out
  clear HC9
  clear Z11_0 Z11_1 Z11_2 Z11_3 Z11_4 F11_0 F11_1 F11_2 F11_3 F11_4 Z13_0 Z13_1 Z13_2 Z13_3 Z13_4 F13_0 F13_1 F13_2 F13_3 F13_4
  by_cases c15 : t231 = true
  ·subst c15
   replace H := ift H
   replace H := obe H
   obtain ⟨t232, A16, H⟩ := H
   simp only [Option.some.injEq, Prod.mk.injEq] at H
   obtain ⟨rfl, rfl⟩ := H
   have hnb17 := NB228_229.out
   have hnc17 := NB229_228.out
   obtain ⟨Z18_0, Z18_1, Z18_2, Z18_3, Z18_4, F18_0, F18_1, F18_2, F18_3, F18_4⟩ := cz5 BK228.out
   obtain ⟨Z19_0, Z19_1, Z19_2, Z19_3, Z19_4, F19_0, F19_1, F19_2, F19_3, F19_4⟩ := cz5 BK229.out
   go_wp2_with (first | ((with_reducible refine gate_callee (f := 104) rfl ?_); refine gl_ (some 16) Tryz.func104 (by kernel_rfl) #[.agg #[.int .i64 a0_0, .int .i64 a0_1, .int .i64 a0_2, .string a0_3, .int .i64 a0_4], .agg #[.int .i64 a1_0, .int .i64 a1_1, .int .i64 a1_2, .string a1_3, .int .i64 a1_4]] rfl ?_; (with_reducible refine (value_order.calls k a0_0 a0_1 a0_2 a0_3 a0_4 a1_0 a1_1 a1_2 a1_3 a1_4 t232 _ A16.out).mono ?_); rintro e w20 ⟨rfl, hb⟩; refine ⟨_, rfl, ?_⟩; replace BK228 := kb BK228 hb; replace BK229 := kb BK229 hb; replace HB := sb HB hb; clear hb))
   go_ret2
   exact ⟨az, bz HB.out⟩
  replace c15 := Bool.eq_false_iff.mpr c15
  subst c15
  replace H := iff_ H
  simp only [Option.some.injEq, Prod.mk.injEq] at H
  obtain ⟨rfl, rfl⟩ := H
  go_wp2
  go_ret2
  exact ⟨az, bz HB.out⟩
 replace c7 := Bool.eq_false_iff.mpr c7
 subst c7
 replace H := iff_ H
 simp only [Option.some.injEq, Prod.mk.injEq] at H
 obtain ⟨rfl, rfl⟩ := H
 have hnb21 := NB228_229.out
 have hnc21 := NB229_228.out
 obtain ⟨Z22_0, Z22_1, Z22_2, Z22_3, Z22_4, F22_0, F22_1, F22_2, F22_3, F22_4⟩ := cz5 BK228.out
 go_wp2_with (first | ((with_reducible refine gate_callee (f := 38) rfl ?_); refine gl_ (some 7) Tryz.func38 (by kernel_rfl) #[.agg #[.int .i64 a0_0, .int .i64 a0_1, .int .i64 a0_2, .string a0_3, .int .i64 a0_4]] rfl ?_; (with_reducible refine (value_Sound.calls k a0_0 a0_1 a0_2 a0_3 a0_4 false _ ?side1 A6.out).mono ?_); (case side1 => exact tabs_of HT.out (bz HB.out)); rintro e w23 ⟨rfl, hb⟩; refine ⟨_, rfl, ?_⟩; replace BK228 := kb BK228 hb; replace BK229 := kb BK229 hb; replace HB := sb HB hb; clear hb))
 go_ret2
 exact ⟨az, bz HB.out⟩
end Go.Proofs.YtgkemhgihbfmmaaGreatDoor.PA
end
section
namespace Go.Proofs.YtgkemhgihbfmmaaGreatDoor.PA
open Go.RowKit Go.Proofs.YtgkemhgihbfmmaaGreatDoorW.PrintWords Go.Proofs.YtgkemhgihbfmmaaGreatDoorW.PrintLast Go.Proofs.YtgkemhgihbfmmaaGreatDoorW.PrintMore
attribute [local go_sem] max2_int min2_int max_two min_two max_three min_three max_four min_four isSome_set str_gtr
set_option linter.unusedVariables false
set_option linter.unusedSimpArgs false
def logic_Truth.f (a0 : Bool) : Option (Int × Int × Int × ByteArray × Int) := if a0 = true then (some (3, 0, 0, (⟨#[]⟩ : ByteArray), 1)) else (some (3, 0, 0, (⟨#[]⟩ : ByteArray), 0))
set_option maxHeartbeats 8000000 in
set_option maxRecDepth 100000 in
theorem logic_Truth.calls (a0 : Bool) (r1 r2 r3 : Int) (r4 : ByteArray) (r5 : Int) (w : World) (h : logic_Truth.f a0 = some (r1, r2, r3, r4, r5)) :
  Calls Tryz.prog 59 #[.bool a0] w fun e w' => e = .returned (.agg #[.int .i64 r1, .int .i64 r2, .int .i64 r3, .string r4, .int .i64 r5]) ∧ Below w.heap.size w w' := by
 have hu25 := Tryz.underlying25
 have HB := am (Below.refl w.heap.size w)
 have H : (if a0 = true then (some (3, 0, 0, (⟨#[]⟩ : ByteArray), 1)) else (some (3, 0, 0, (⟨#[]⟩ : ByteArray), 0))) = some (r1, r2, r3, r4, r5) := h
 clear h
 have HC2 := am H
 clear H
 go_enter Tryz.func59, Tryz.ntmps59
 go_upto_if 5 with (first | ((with_reducible refine gate_dst (N := 2) rfl ?_); refine bev (#[.int .i64 0, .int .i64 0, .int .i64 0, .string (⟨#[]⟩ : ByteArray), .int .i64 0]) 25 ?_; intro gb233 hg w3 hbox hb; have BK233 := am (hbox); have GW233 := gs hg HB; have GE233 := GW233; replace HB := sb HB hb; clear hb hbox hg) | ((with_reducible refine gate_dst (N := 3) rfl ?_); refine bev (#[.int .i64 0, .int .i64 0, .int .i64 0, .string (⟨#[]⟩ : ByteArray), .int .i64 0]) 25 ?_; intro gb234 hg w4 hbox hb; have BK234 := am (hbox); have GW234 := gs hg HB; have GE234 := GW234; replace HB := sb HB hb; have NB233_234 := na hg BK233; have NB234_233 := nb hg BK233; replace BK233 := kb BK233 hb; clear hb hbox hg; have hnb5 := NB234_233.out; have hnc5 := NB233_234.out; obtain ⟨Z6_0, Z6_1, Z6_2, Z6_3, Z6_4, F6_0, F6_1, F6_2, F6_3, F6_4⟩ := cz5 BK234.out))
 (try simp only [Act.put, List.setIfInBounds_toArray, List.set_cons_zero, List.set_cons_succ])
 have H := HC2.out
 clear HC2
 clear Z6_0 Z6_1 Z6_2 Z6_3 Z6_4 F6_0 F6_1 F6_2 F6_3 F6_4
 by_cases c7 : a0 = true
 ·subst c7
  replace H := ift H
  simp only [Option.some.injEq, Prod.mk.injEq] at H
  obtain ⟨rfl, rfl, rfl, rfl, rfl⟩ := H
  have hnb8 := NB234_233.out
  have hnc8 := NB233_234.out
  obtain ⟨Z9_0, Z9_1, Z9_2, Z9_3, Z9_4, F9_0, F9_1, F9_2, F9_3, F9_4⟩ := cz5 BK234.out
  obtain ⟨Z10_0, Z10_1, Z10_2, Z10_3, Z10_4, F10_0, F10_1, F10_2, F10_3, F10_4⟩ := cz5 BK233.out
  go_wp2
  refine bodyPost_ret (results_cell_row rfl _ _ gb233 25 #[.int .i64 3, .int .i64 0, .int .i64 0, .string (⟨#[]⟩ : ByteArray), .int .i64 1] (0, 0) _ rfl (bp BK233.out) Tryz.underlying25 rfl (by kernel_rfl)) rfl ?_
  exact ⟨az, bz HB.out⟩
 replace c7 := Bool.eq_false_iff.mpr c7
 subst c7
 replace H := iff_ H
 simp only [Option.some.injEq, Prod.mk.injEq] at H
 obtain ⟨rfl, rfl, rfl, rfl, rfl⟩ := H
 have hnb11 := NB234_233.out
 have hnc11 := NB233_234.out
 obtain ⟨Z12_0, Z12_1, Z12_2, Z12_3, Z12_4, F12_0, F12_1, F12_2, F12_3, F12_4⟩ := cz5 BK234.out
 obtain ⟨Z13_0, Z13_1, Z13_2, Z13_3, Z13_4, F13_0, F13_1, F13_2, F13_3, F13_4⟩ := cz5 BK233.out
 go_wp2
 refine bodyPost_ret (results_cell_row rfl _ _ gb233 25 #[.int .i64 3, .int .i64 0, .int .i64 0, .string (⟨#[]⟩ : ByteArray), .int .i64 0] (0, 0) _ rfl (bp BK233.out) Tryz.underlying25 rfl (by kernel_rfl)) rfl ?_
 exact ⟨az, bz HB.out⟩
end Go.Proofs.YtgkemhgihbfmmaaGreatDoor.PA
end
