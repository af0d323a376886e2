/- Part 18 of the proof for CalcCompares: functions of the program as plain Lean functions, their calls, and what they come to. -/
import Derived.Test.YtgkemhgihbfmmaaGreatDoorCalcComparesK2
import Derived.Test.YtgkemhgihbfmmaaGreatDoorCalcComparesK15
import Derived.Test.YtgkemhgihbfmmaaGreatDoorCalcComparesK16
set_option linter.unusedVariables false
set_option linter.unusedSimpArgs false
namespace Go.Proofs.YtgkemhgihbfmmaaGreatDoor.PA
open Go.RowKit Go.Sort Go.Proofs.YtgkemhgihbfmmaaGreatDoorW.PrintWords
def strings_TrimLeft.f (a0 a1 : ByteArray) : Option ByteArray := if a1.size < 4294967281 ∧ a1.data.toList.all (fun b => decide (b.toNat < 128)) = true then some ⟨(Lib.trimLeftS a0.data.toList a1.data.toList).toArray⟩ else none
theorem strings_TrimLeft.calls (a0 a1 : ByteArray) (r : ByteArray) (w : World) (h : strings_TrimLeft.f a0 a1 = some r) :
    Calls Tryz.prog 144 #[.string a0, .string a1] w fun e w' => e = .returned (.string r) ∧ Below w.heap.size w w' := by
  unfold strings_TrimLeft.f at h
  split at h
  · rename_i hx
    obtain ⟨h1, h2⟩ := hx
    obtain rfl := Option.some.inj h
    exact Any.strings_TrimLeft_laid Tryz.lays161 (by kernel_rfl) a0 a1 w h1 (ascii_of_all h2)
  · cases h
def strings_IndexByte.f (a0 : ByteArray) (a1 : Int) : Option Int := some (Lib.indexByte a0.data.toList a1.toNat.toUInt8)
theorem strings_IndexByte.calls (a0 : ByteArray) (a1 r : Int) (w : World) (h : strings_IndexByte.f a0 a1 = some r) :
    Calls Tryz.prog 145 #[.string a0, .int .u8 a1] w fun e w' => e = .returned (.int .i64 r) ∧ Below w.heap.size w w' := by
  obtain rfl := Option.some.inj h
  exact (Tryz.strings_IndexByte a0 a1 w).mono fun e w' ⟨he, hw⟩ => ⟨he, hw ▸ Below.refl _ _⟩
def strings_Contains.f (a0 a1 : ByteArray) : Option Bool := if a1.size = 1 then some (decide (0 ≤ Lib.indexByte a0.data.toList (a1.data.getD 0 0))) else none
theorem strings_Contains.calls (a0 a1 : ByteArray) (r : Bool) (w : World) (h : strings_Contains.f a0 a1 = some r) :
    Calls Tryz.prog 193 #[.string a0, .string a1] w fun e w' => e = .returned (.bool r) ∧ Below w.heap.size w w' := by
  unfold strings_Contains.f at h
  split at h
  · rename_i hx
    obtain ⟨c, rfl⟩ : ∃ c : UInt8, a1 = ⟨#[c]⟩ := by
      obtain ⟨⟨l⟩⟩ := a1
      match l, hx with
      | [c], _ => exact ⟨c, rfl⟩
    obtain rfl := Option.some.inj h
    exact (Tryz.strings_Contains_one a0 c w).mono fun e w' ⟨he, hw⟩ => ⟨he, hw ▸ Below.refl _ _⟩
  · cases h
theorem nullHere {w W : World} (h : Tabs w) (hb : Below w.heap.size w W) : NullAt W := nullAt_of h.null hb
theorem nz {w W : World} (h : Aside0 (Tabs w)) (hb : Aside0 (Below w.heap.size w W)) : NullAt W := nullAt_of h.out.null hb.out
theorem ne0 {n g : Nat} (h0 : 0 < n) (h : n ≤ g) : g ≠ 0 := by omega
theorem bytesLess_total : ∀ x y : List UInt8, (!(Op.bytesLess x y || x == y)) = Op.bytesLess y x
  | [], [] => by simp [Op.bytesLess]
  | [], b :: y => by simp [Op.bytesLess]
  | a :: x, [] => by simp [Op.bytesLess]
  | a :: x, b :: y => by
    have ih := bytesLess_total x y
    simp only [Op.bytesLess]
    rcases Nat.lt_trichotomy a.toNat b.toNat with h | h | h
    · have h1 : a < b := h
      have h2 : ¬ b < a := fun h3 => Nat.lt_asymm h h3
      have h4 : b ≠ a := fun e => by subst e; exact Nat.lt_irrefl _ h
      simp [h1, h2, h4]
    · have e : a = b := UInt8.toNat_inj.1 h
      subst e
      have h2 : ¬ a < a := Nat.lt_irrefl _
      simp [h2]
      simpa using ih
    · have h1 : b < a := h
      have h2 : ¬ a < b := fun h3 => Nat.lt_asymm h h3
      have h4 : a ≠ b := fun e => by subst e; exact Nat.lt_irrefl _ h
      simp [h1, h2, h4]
theorem str_gtr (t : TypeId) (a b : ByteArray) : binOp .gtr t (.string a) (.string b) = pure (.bool (Op.bytesLess b.toList a.toList)) := by
  rw [← bytesLess_total]
  simp [binOp, Op.stringOp]
def lex_quoted.f (_a0 : ByteArray) : Option (ByteArray × Int × Bool) := none
def days_Parse.f (_a0 : ByteArray) : Option (Int × Int) := none
end Go.Proofs.YtgkemhgihbfmmaaGreatDoor.PA
