/- Part 24 of the proof for CalcCompares: functions of the program as plain Lean functions, their calls, and what they come to. -/
import Derived.Test.YtgkemhgihbfmmaaGreatDoorCards
import Derived.Test.YtgkemhgihbfmmaaGreatDoorTie
import Derived.WalkKit
import Derived.ProofKit
import Derived.Handy
import Derived.Lay
import Derived.SevenTiedAt
import Derived.ChangeMaps5
import Derived.Lib.LaidTab
import Derived.Lib.SmallJoins
import Derived.Stop.LaidErr
import Derived.Lib.LaidU8T
import Derived.Test.YtgkemhgihbfmmaaGreatDoorCalcComparesK2
set_option linter.unusedVariables false
set_option linter.unusedSimpArgs false
namespace Go.Proofs.YtgkemhgihbfmmaaGreatDoor.Frame
open Go.ChangeShapes Go.WideShapes Go.ChangeAt Go.RowKit Go.Joins
theorem own : ownKnob Tryz.prog.godebug = none := by kernel_rfl
theorem cells23 : Tryz.prog.cellsOf 23 = 2 := by kernel_rfl
def laid : List (String × DataW Unit) := [("math/bits.deBruijn32tab", Rows.laid_math_bits_deBruijn32tab), ("math/bits.deBruijn64tab", Rows.laid_math_bits_deBruijn64tab), ("internal/strconv.uint64pow10", Rows.laid_internal_strconv_uint64pow10), ("unicode/utf8.acceptRanges", Rows.laid_unicode_utf8_acceptRanges), ("strconv.ErrRange", Rows.laid_strconv_ErrRange), ("strconv.ErrSyntax", Rows.laid_strconv_ErrSyntax), ("soffit/calc.null", Rows.laid_soffit_calc_null), ("unicode/utf8.first", Rows.laid_unicode_utf8_first)]
set_option maxRecDepth 100000 in
theorem laid_met (os : Os) (args : Array Value) : laidMetH Tryz.prog laid ((World.laidAll Tryz.prog os laid).forCall (fun _ _ => 0) ⟨#[], args, []⟩).memory := by
  rw [MakeChecks.laidMetH_plain _ _ _ (by kernel_rfl)]
  exact laidMet_laidAll _ (by kernel_rfl) (by kernel_rfl)
theorem gPow : Tryz.prog.globalNamed "internal/strconv.uint64pow10" = some 6 := by kernel_rfl
theorem tPow : (Tryz.prog.globals[6]?).map (·.type) = some 225 := by kernel_rfl
theorem cells120 : Tryz.prog.cellsOf 225 = 20 := by kernel_rfl
theorem cells44 : Tryz.prog.cellsOf 75 = 1 := by kernel_rfl
theorem noHandles : (laid.all fun x => x.2.handleName?.isNone) = true := by kernel_rfl
def ren : Go.Shelf.Ren := ⟨id, fun t => if t = 5 then 5 else if t = 119 then 231 else if t = 138 then 233 else if t = 139 then 234 else t, fun g => if g = 3 then 7 else if g = 4 then 8 else g⟩
theorem u8types : U8Types Tryz.prog ren := ⟨Tryz.underlying5, Tryz.underlying231, Tryz.underlying233, Tryz.underlying234⟩
theorem u8extra : U8Extra Tryz.prog ren := ⟨by kernel_rfl, by kernel_rfl, by kernel_rfl, by kernel_rfl, by kernel_rfl, by kernel_rfl, by kernel_rfl⟩
theorem first_eq : Rows.laid_unicode_utf8_first = Lib.firstData := by kernel_rfl
theorem accept_eq : (Rows.laid_unicode_utf8_acceptRanges : DataW Unit) = Lib.acceptData := by kernel_rfl
theorem null_at {W : World} (h : Lib.VarReads Tryz.prog W "soffit/calc.null" Rows.laid_soffit_calc_null) : PA.NullAt W := by
  obtain ⟨g, t, cs, fuel, p, hg, hty, hvar, hd⟩ := h
  obtain rfl := Option.some.inj ((show Tryz.prog.globalNamed "soffit/calc.null" = some 0 by kernel_rfl).symm.trans hg)
  obtain rfl := Option.some.inj ((show (Tryz.prog.globals[0]?).map (·.type) = some 25 by kernel_rfl).symm.trans hty)
  have c3 : Tryz.prog.cellsOf 3 = 1 := by kernel_rfl
  have c9 : Tryz.prog.cellsOf 9 = 1 := by kernel_rfl
  have c25 : Tryz.prog.cellsOf 25 = 5 := by kernel_rfl
  obtain ⟨y0, y1, y2, y3, n, hx, hl, h0, h1, h2, h3⟩ := trod_struct4 Tryz.underlying25 hd
  simp only [c3, c9, cells23, c25] at h0 h1 h2 h3 hl
  obtain ⟨z0, z1, m, hz, _, g0, g1⟩ := trod_struct2 Tryz.underlying23 h1
  simp only [c3] at g0 g1
  obtain ⟨a, e0, rfl, _⟩ := DataW.trod_int Tryz.underlying3 h0
  obtain ⟨b, e1, rfl, _⟩ := DataW.trod_int Tryz.underlying3 g0
  obtain ⟨c, e2, rfl, _⟩ := DataW.trod_int Tryz.underlying3 g1
  obtain ⟨d, e3, rfl, _⟩ := DataW.trod_string Tryz.underlying9 h2
  obtain ⟨e, e4, rfl, _⟩ := DataW.trod_int Tryz.underlying3 h3
  subst hz
  simp only [Rows.laid_soffit_calc_null, Prod.mk.injEq, DataW.agg.injEq, List.cons.injEq, DataW.lit.injEq, Lit.int.injEq, Lit.string.injEq, true_and, and_true] at hx
  obtain ⟨⟨ha, ⟨hb, hc⟩, hd', he⟩, _⟩ := hx
  have hd2 : d = ⟨#[]⟩ := by
    obtain ⟨⟨l⟩⟩ := d
    have : l = [] := hd'.symm
    rw [this]
  subst ha hb hc he hd2
  have q0 := congrArg (·[0]?) e0
  have q1 := congrArg (·[0]?) e1
  have q2 := congrArg (·[0]?) e2
  have q3 := congrArg (·[0]?) e3
  have q4 := congrArg (·[0]?) e4
  simp only [List.getElem?_take, List.getElem?_drop] at q0 q1 q2 q3 q4
  refine ⟨?_, ?_, ?_, ?_, ?_⟩
  · rw [World.var?_cell hg hvar 0, ← Array.getElem?_toList]; simpa using q0
  · rw [World.var?_cell hg hvar 1, ← Array.getElem?_toList]; simpa using q1
  · rw [World.var?_cell hg hvar 2, ← Array.getElem?_toList]; simpa using q2
  · rw [World.var?_cell hg hvar 3, ← Array.getElem?_toList]; simpa using q3
  · rw [World.var?_cell hg hvar 4, ← Array.getElem?_toList]; simpa using q4
theorem tabs {W : World} (h : laidMetH Tryz.prog laid W) : PA.Tabs W := by
  rw [MakeChecks.laidMetH_plain _ _ _ noHandles] at h
  refine ⟨?_, ?_, ?_⟩
  · exact Lib.tabIs_of_head (rest := [("unicode/utf8.acceptRanges", Rows.laid_unicode_utf8_acceptRanges), ("strconv.ErrRange", Rows.laid_strconv_ErrRange), ("strconv.ErrSyntax", Rows.laid_strconv_ErrSyntax), ("soffit/calc.null", Rows.laid_soffit_calc_null), ("unicode/utf8.first", Rows.laid_unicode_utf8_first)]) gPow tPow Tryz.underlying225 Tryz.underlying75 cells44 cells120 (laidMet.tail (laidMet.tail h))
  · have h3 := Lib.laidMet.reads h (n := "unicode/utf8.first") (d := Rows.laid_unicode_utf8_first) (by simp [laid])
    have h4 := Lib.laidMet.reads h (n := "unicode/utf8.acceptRanges") (d := Rows.laid_unicode_utf8_acceptRanges) (by simp [laid])
    rw [first_eq] at h3
    rw [accept_eq] at h4
    exact utf8Tabs_of_readsT u8types u8extra h3 h4
  · exact null_at (Lib.laidMet.reads h (by simp [laid]))
section
variable {H : Type} {enc : TypeId × Value → H}
def dval (a n s : Int) (t : ByteArray) (x : Int) : DataW H := .agg [.lit (.int .i64 a), .agg [.lit (.int .i64 n), .lit (.int .i64 s)], .lit (.string t.data.toList), .lit (.int .i64 x)]
theorem cells3 : Tryz.prog.cellsOf 3 = 1 := by kernel_rfl
theorem cells9 : Tryz.prog.cellsOf 9 = 1 := by kernel_rfl
theorem cells25 : Tryz.prog.cellsOf 25 = 5 := by kernel_rfl
theorem array5 {α : Type} {cs : Array α} (h : cs.size = 5) : ∃ c0 c1 c2 c3 c4, cs = #[c0, c1, c2, c3, c4] := by
  obtain ⟨l⟩ := cs
  match l, h with
  | [c0, c1, c2, c3, c4], _ => exact ⟨c0, c1, c2, c3, c4, rfl⟩
set_option maxRecDepth 100000 in
theorem open_val {r : Reach} {b0 b1 : Nat} {w : World} {sp : Nat → Bool} {held : Bool} {v : Value} {d : DataW H} {p : List MemPlace}
    (hv : Value.okWide Tryz.prog w r b0 25 v) (h : DataW.Trod enc Tryz.prog w b1 sp held 25 v d p) :
    ∃ (a n s : Int) (t : ByteArray) (x : Int), v = .agg #[.int .i64 a, .int .i64 n, .int .i64 s, .string t, .int .i64 x] ∧ d = dval a n s t x ∧ p = [] ∧
      (Lit.int .i64 a).wf = true ∧ (Lit.int .i64 n).wf = true ∧ (Lit.int .i64 s).wf = true ∧ t.size ≤ maxLen ∧ (Lit.int .i64 x).wf = true := by
  obtain ⟨cs, rfl, hsz⟩ := okWide_struct Tryz.underlying25 hv
  obtain ⟨c0, c1, c2, c3, c4, rfl⟩ := array5 (hsz.trans cells25)
  obtain ⟨fuel, hf⟩ := h
  obtain ⟨y0, y1, y2, y3, k, hx, _, h0, h1, h2, h3⟩ := trod_struct4 Tryz.underlying25 hf
  simp only [cells3, cells9, cells23, Value.cells, List.drop_zero, List.drop_succ_cons, List.take_succ_cons, List.take_zero] at h0 h1 h2 h3
  obtain ⟨z0, z1, m, rfl, _, g0, g1⟩ := trod_struct2 Tryz.underlying23 h1
  simp only [cells3, List.drop_zero, List.drop_succ_cons, List.take_succ_cons, List.take_zero] at g0 g1
  obtain ⟨a, e0, rfl, wa⟩ := DataW.trod_int Tryz.underlying3 h0
  obtain ⟨b, e1, rfl, wb⟩ := DataW.trod_int Tryz.underlying3 g0
  obtain ⟨c, e2, rfl, wc⟩ := DataW.trod_int Tryz.underlying3 g1
  obtain ⟨t, e3, rfl, wt⟩ := DataW.trod_string Tryz.underlying9 h2
  obtain ⟨x, e4, rfl, wx⟩ := DataW.trod_int Tryz.underlying3 h3
  simp only [List.cons.injEq, and_true] at e0 e1 e2 e3 e4
  subst e0 e1 e2 e3 e4
  simp only [Prod.mk.injEq, List.append_nil] at hx
  exact ⟨a, b, c, t, x, rfl, hx.1, hx.2, wa, wb, wc, wt, wx⟩
set_option maxRecDepth 100000 in
theorem shut_val {w : World} {b0 : Nat} {sp : Nat → Bool} {held : Bool} {a n s : Int} {t : ByteArray} {x : Int} (wa : (Lit.int .i64 a).wf = true) (wn : (Lit.int .i64 n).wf = true) (ws : (Lit.int .i64 s).wf = true) (wt : t.size ≤ maxLen) (wx : (Lit.int .i64 x).wf = true) :
    DataW.Trod enc Tryz.prog w b0 sp held 25 (.agg #[.int .i64 a, .int .i64 n, .int .i64 s, .string t, .int .i64 x]) (dval a n s t x) [] := by
  have hi : ∀ z : Int, (Lit.int .i64 z).wf = true → DataW.trod enc Tryz.prog w b0 sp held 2 3 [.int .i64 z] = some (.lit (.int .i64 z), []) := fun z hz => by simp [DataW.trod, Tryz.underlying3, hz]
  have hs : DataW.trod enc Tryz.prog w b0 sp held 2 9 [.string t] = some (.lit (.string t.data.toList), []) := by simp [DataW.trod, Tryz.underlying9, wt]
  have h1 : DataW.trod enc Tryz.prog w b0 sp held 2 23 [.int .i64 n, .int .i64 s] = some (.agg [.lit (.int .i64 n), .lit (.int .i64 s)], []) := by
    have := trod_struct2_mk (enc := enc) (w := w) (base := b0) (spare := sp) (held := held) (n := 1) (cs := [.int .i64 n, .int .i64 s]) (y0 := (.lit (.int .i64 n), [])) (y1 := (.lit (.int .i64 s), [])) Tryz.underlying23 (by rw [cells23]; rfl) (by simp [cells3, DataW.trod, Tryz.underlying3, wn]) (by simp [cells3, DataW.trod, Tryz.underlying3, ws])
    simpa using this
  have := trod_struct4_mk (enc := enc) (w := w) (base := b0) (spare := sp) (held := held) (n := 2) (cs := [.int .i64 a, .int .i64 n, .int .i64 s, .string t, .int .i64 x]) (y0 := (.lit (.int .i64 a), [])) (y1 := (.agg [.lit (.int .i64 n), .lit (.int .i64 s)], [])) (y2 := (.lit (.string t.data.toList), [])) (y3 := (.lit (.int .i64 x), []))
    Tryz.underlying25 (by rw [cells25]; rfl) (by simpa [cells3] using hi a wa) (by simpa [cells23] using h1) (by simpa [cells9] using hs) (by simpa [cells3] using hi x wx)
  exact ⟨3, by simpa [Value.cells, dval] using this⟩
end
end Go.Proofs.YtgkemhgihbfmmaaGreatDoor.Frame
