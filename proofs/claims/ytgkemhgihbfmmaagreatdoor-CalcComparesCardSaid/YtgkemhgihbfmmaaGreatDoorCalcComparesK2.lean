/- Part 3 of the proof for CalcCompares: functions of the program as plain Lean functions, their calls, and what they come to. -/
import Derived.Test.YtgkemhgihbfmmaaGreatDoorProg
import Derived.Lib.IndexMore
import Derived.Shelf.Unicode.DecodeAny
import Derived.Lib.Repeat
import Derived.Lib.SlTrimSet
import Derived.Lib.ItoaNum
import Derived.Lib.ParseIntB
import Derived.Lib.LaidTab
import Derived.Shelf.Strconv.Itoa1
import Derived.Shelf.Small.Bits
import Derived.Shelf.Strings.SlTrimAscii
import Derived.WalkSmall
import Derived.Lib.ItoaMem
import Derived.Lib.AppendIntMem
import Derived.Lib.AtoiErrMem
import Derived.Shelf.Strconv.AppendUint10
import Derived.Shelf.Strings.Cut
import Derived.Shelf.RegionOpenPlain
import Derived.Lib.CutLaws
import Derived.BigCall
import Derived.BigGuard
import Derived.Test.YtgkemhgihbfmmaaGreatDoorCalcComparesK0
import Derived.Test.YtgkemhgihbfmmaaGreatDoorCalcComparesK1
set_option linter.unusedVariables false
set_option linter.unusedSimpArgs false
namespace Go.Proofs.YtgkemhgihbfmmaaGreatDoor.PA
open Go.RowKit Go.Sort Go.Proofs.YtgkemhgihbfmmaaGreatDoorW.PrintWords
def PowTab (w : World) : Prop := Lib.TabIs Tryz.prog w "internal/strconv.uint64pow10" .u64 Lib.pow10Tab
theorem powTab_of {w w' : World} (h : PowTab w) (hb : Below w.heap.size w w') : PowTab w' := by
  refine var?_below hb (g := 6) (by kernel_rfl) ?_ h
  unfold PowTab Lib.TabIs World.var? at h
  rw [show Tryz.prog.globalNamed "internal/strconv.uint64pow10" = some 6 by kernel_rfl] at h
  simp only [Option.bind_some] at h
  cases hh : w.heap[6]? with
  | none => rw [hh] at h; cases h
  | some o => exact (Array.getElem?_eq_some_iff.1 hh).1
def NullAt (w : World) : Prop := w.cell? ⟨0, 0, none⟩ = some (.int .i64 0) ∧ w.cell? ⟨0, 1, none⟩ = some (.int .i64 0) ∧ w.cell? ⟨0, 2, none⟩ = some (.int .i64 0) ∧ w.cell? ⟨0, 3, none⟩ = some (.string ⟨#[]⟩) ∧ w.cell? ⟨0, 4, none⟩ = some (.int .i64 0)
theorem NullAt.pos {w : World} (h : NullAt w) : 0 < w.heap.size := World.block_lt_of_cell? _ _ h.1
theorem nullAt_of {w w' : World} (h : NullAt w) (hb : Below w.heap.size w w') : NullAt w' := by
  have h0 := h.pos
  obtain ⟨a, b, c, d, e⟩ := h
  exact ⟨(hb.cell (p := ⟨0, 0, none⟩) h0).trans a, (hb.cell (p := ⟨0, 1, none⟩) h0).trans b, (hb.cell (p := ⟨0, 2, none⟩) h0).trans c, (hb.cell (p := ⟨0, 3, none⟩) h0).trans d, (hb.cell (p := ⟨0, 4, none⟩) h0).trans e⟩
structure Tabs (w : World) : Prop where
  pow : PowTab w
  utf : Lib.Utf8Tabs 7 8 w
  null : NullAt w
theorem tabs_of {w w' : World} (h : Tabs w) (hb : Below w.heap.size w w') : Tabs w' := ⟨powTab_of h.pow hb, Utf8Tabs_below h.utf hb, nullAt_of h.null hb⟩
def bits_LeadingZeros64.f (a0 : Int) : Option Int := if 0 ≤ a0 ∧ a0 < 18446744073709551616 then some (64 - (Lib.bitLen a0.toNat : Int)) else none
def bits_Mul64.f (a0 a1 : Int) : Option (Int × Int) := if 0 ≤ a0 ∧ a0 < 18446744073709551616 ∧ 0 ≤ a1 ∧ a1 < 18446744073709551616 then some (a0 * a1 / 18446744073709551616, a0 * a1 % 18446744073709551616) else none
theorem bits_Mul64.calls (a0 a1 r1 r2 : Int) (w : World) (h : bits_Mul64.f a0 a1 = some (r1, r2)) :
    Calls Tryz.prog 95 #[.int .u64 a0, .int .u64 a1] w fun e w' => e = .returned (.tuple #[.int .u64 r1, .int .u64 r2]) ∧ Drawn0 w w' := by
  unfold bits_Mul64.f at h
  split at h
  · rename_i hx
    obtain ⟨h0, h1, h2, h3⟩ := hx
    obtain ⟨x, rfl⟩ : ∃ x : Nat, a0 = x := ⟨a0.toNat, by omega⟩
    obtain ⟨y, rfl⟩ : ∃ y : Nat, a1 = y := ⟨a1.toNat, by omega⟩
    obtain ⟨rfl, rfl⟩ := Prod.mk.inj (Option.some.inj h)
    refine (Tryz.bits_Mul64 x y (by omega) (by omega) w).mono fun e w' ⟨he, hw⟩ => ⟨?_, hw ▸ Drawn0.refl w⟩
    rw [he, Int.natCast_ediv, Int.natCast_emod, Int.natCast_mul]; rfl
  · cases h
def strconv_FormatUint.f (a0 a1 : Int) : Option ByteArray := if a1 = 10 ∧ 0 ≤ a0 ∧ a0 < 9223372036854775808 then some ⟨(Lib.decDigits a0.toNat).toArray⟩ else none
def strings_Repeat.f (a0 : ByteArray) (a1 : Int) : Option ByteArray := if 0 ≤ a1 ∧ a1 ≤ 1048576 ∧ a0.size ≤ 1048576 then some ⟨(Lib.repeatL a0.data.toList a1.toNat).toArray⟩ else none
def strings_Cut.f (a0 a1 : ByteArray) : Option (ByteArray × ByteArray × Bool) :=
  if a1.size = 1 ∧ a0.size ≤ 9223372036854775806 then some (⟨(Lib.cut a0.data.toList a1.data.toList).1.toArray⟩, ⟨(Lib.cut a0.data.toList a1.data.toList).2.1.toArray⟩, (Lib.cut a0.data.toList a1.data.toList).2.2) else none
set_option maxHeartbeats 2000000 in
set_option maxRecDepth 100000 in
theorem lite_cut (s : ByteArray) (c : UInt8) (w : World) (hsz : s.size ≤ 9223372036854775806) :
    Calls Tryz.prog 122 #[.string s, .string ⟨#[c]⟩] w fun e w' => e = .returned (.tuple #[.string ⟨(Lib.cut s.data.toList [c]).1.toArray⟩, .string ⟨(Lib.cut s.data.toList [c]).2.1.toArray⟩, .bool (Lib.cut s.data.toList [c]).2.2]) ∧ Drawn0 w w' := by
  have hone : Lib.indexByte s.data.toList c = Lib.indexB s ⟨#[c]⟩ := (Lib.index_one _ _).symm
  rcases Lib.indexB_cases s ⟨#[c]⟩ with hix | ⟨i, hix, hroom⟩
  · obtain ⟨e1, e2, e3⟩ := Lib.cutB_miss s ⟨#[c]⟩ hix
    simp only at e1 e2 e3
    rw [e1, e2, e3]
    go_enter Tryz.func122, Tryz.ntmps122
    go_wp2_with fail
    refine (Tryz.stringslite_Index_one s c _).mono ?_
    rintro e w' ⟨rfl, rfl⟩
    rw [hone, hix]
    go_wp2_with fail
    go_ret3
    exact ⟨rfl, Drawn0.refl _⟩
  · obtain ⟨e1, e2, e3⟩ := Lib.cutB_hit s ⟨#[c]⟩ i hix
    simp only at e1 e2 e3
    rw [e1, e2, e3]
    have hz : (⟨#[c]⟩ : ByteArray).size = 1 := rfl
    rw [hz] at hroom
    have c1 : (0 : Int) ≤ ↑i := by omega
    have c2 : (↑i : Int) ≤ ↑s.size := by omega
    have c3 : (0 : Int) ≤ (i : Int) + 1 := by omega
    have c4 : ((i : Int) + 1 : Int) ≤ ↑s.size := by omega
    have c5 : IntKind.i64.wrap ((i : Int) + 1) = (i : Int) + 1 := by rw [IntKind.wrap_i64]; omega
    have mixed : Tryz.prog.follows Departure.mixedOrders = true := by kernel_rfl
    go_enter Tryz.func122, Tryz.ntmps122
    go_wp2_with fail
    refine (Tryz.stringslite_Index_one s c _).mono ?_
    rintro e w' ⟨rfl, rfl⟩
    rw [hone, hix]
    go_wp2_with fail
    go_region_o
    go_wp2_with fail
    go_ret3
    exact ⟨rfl, Drawn0.mk ⟨1, rfl⟩⟩
theorem strings_Cut.calls (a0 a1 r1 r2 : ByteArray) (r3 : Bool) (w : World) (h : strings_Cut.f a0 a1 = some (r1, r2, r3)) :
    Calls Tryz.prog 88 #[.string a0, .string a1] w fun e w' => e = .returned (.tuple #[.string r1, .string r2, .bool r3]) ∧ Drawn0 w w' := by
  unfold strings_Cut.f at h
  split at h
  · rename_i hx
    obtain ⟨hx, hsz⟩ := hx
    obtain ⟨c, rfl⟩ : ∃ c : UInt8, a1 = ⟨#[c]⟩ := by
      obtain ⟨⟨l⟩⟩ := a1
      match l, hx with
      | [c], _ => exact ⟨c, rfl⟩
    obtain ⟨rfl, h2⟩ := Prod.mk.inj (Option.some.inj h)
    obtain ⟨rfl, rfl⟩ := Prod.mk.inj h2
    go_enter Tryz.func88, Tryz.ntmps88
    go_wp2_with fail
    refine (lite_cut a0 c _ hsz).mono ?_
    rintro e w' ⟨rfl, hd⟩
    go_wp2_with fail
    go_ret3
    exact ⟨rfl, hd⟩
  · cases h
def strings_Trim.f (a0 a1 : ByteArray) : Option ByteArray := if a0.size ≤ 9223372036854775807 ∧ a1.size < 4294967281 ∧ a1.data.toList.all (fun b => decide (b.toNat < 128)) = true then some ⟨(Lib.trimS a0.data.toList a1.data.toList).toArray⟩ else none
theorem strings_Trim.calls (a0 a1 : ByteArray) (r : ByteArray) (w : World) (h : strings_Trim.f a0 a1 = some r) :
    Calls Tryz.prog 123 #[.string a0, .string a1] w fun e w' => e = .returned (.string r) ∧ Below w.heap.size w w' := by
  unfold strings_Trim.f at h
  split at h
  · rename_i hx
    obtain ⟨h0, h1, h2⟩ := hx
    obtain rfl := Option.some.inj h
    exact Any.strings_Trim_laid Tryz.lays160 (by kernel_rfl) a0 a1 w h0 h1 (ascii_of_all h2)
  · cases h
def strings_TrimRight.f (a0 a1 : ByteArray) : Option ByteArray := if a0.size ≤ 9223372036854775807 ∧ a1.size < 4294967281 ∧ a1.data.toList.all (fun b => decide (b.toNat < 128)) = true then some ⟨(Lib.trimRightS a0.data.toList a1.data.toList).toArray⟩ else none
theorem strings_TrimRight.calls (a0 a1 : ByteArray) (r : ByteArray) (w : World) (h : strings_TrimRight.f a0 a1 = some r) :
    Calls Tryz.prog 90 #[.string a0, .string a1] w fun e w' => e = .returned (.string r) ∧ Below w.heap.size w w' := by
  unfold strings_TrimRight.f at h
  split at h
  · rename_i hx
    obtain ⟨h0, h1, h2⟩ := hx
    obtain rfl := Option.some.inj h
    exact Any.strings_TrimRight_laid Tryz.lays162 (by kernel_rfl) a0 a1 w h0 h1 (ascii_of_all h2)
  · cases h
def okOf {α : Type} : Lib.NumEnd α → Option α
  | .ok u => some u
  | _ => none
def strconv_ParseUint.f (a0 : ByteArray) (a1 a2 : Int) : Option (Int × Option Int) :=
  if a1 = 10 ∧ a2 = 64 ∧ a0.size ≤ 9223372036854775806 then (okOf (Lib.parseUintB 64 a0.data.toList)).map (fun u => ((u : Int), none)) else none
theorem strconv_ParseUint.calls (a0 : ByteArray) (a1 a2 r1 : Int) (r2 : Option Int) (w : World) (h : strconv_ParseUint.f a0 a1 a2 = some (r1, r2)) :
    Calls Tryz.prog 91 #[.string a0, .int .i64 a1, .int .i64 a2] w fun e w' => e = .returned (.tuple #[.int .u64 r1, .nilIface]) ∧ Below w.heap.size w w' := by
  unfold strconv_ParseUint.f at h
  split at h
  · rename_i hx
    obtain ⟨rfl, rfl, hsz⟩ := hx
    cases hp : Lib.parseUintB 64 a0.data.toList with
    | ok u =>
      rw [hp] at h
      have h' : some ((u : Int), (none : Option Int)) = some (r1, r2) := h
      obtain ⟨rfl, rfl⟩ := Prod.mk.inj (Option.some.inj h')
      refine (Tryz.strconv_ParseUint_10_at64_ok a0 hsz u hp w).mono fun e w' ⟨he, hw⟩ => ⟨he, ?_⟩
      rcases hw with rfl | rfl
      · exact Below.refl _ _
      · exact Lib.bytesWorld_below _ _ _
    | _ => rw [hp] at h; simp [okOf] at h
  · cases h
end Go.Proofs.YtgkemhgihbfmmaaGreatDoor.PA
