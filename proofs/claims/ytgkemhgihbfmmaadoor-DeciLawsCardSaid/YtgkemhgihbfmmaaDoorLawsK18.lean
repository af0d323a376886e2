/- Part 19 of the proof for Laws: functions of the program as plain Lean functions, their calls, and what they come to. -/
import Derived.Laws.BitsLemmas
import Derived.Shelf.Bits.Mul64
import Derived.Test.YtgkemhgihbfmmaaDoorLawsK17
import Derived.Test.YtgkemhgihbfmmaaDoorLawsK14
import Derived.Test.YtgkemhgihbfmmaaDoorLawsK15
import Derived.Test.YtgkemhgihbfmmaaDoorLawsK2
import Derived.Test.YtgkemhgihbfmmaaDoorLawsK16
set_option linter.unusedVariables false
set_option linter.unusedSimpArgs false
section
namespace Go.Proofs.YtgkemhgihbfmmaaDoor.PA
open Go.RowKit Go.Proofs.YtgkemhgihbfmmaaDoorW.PrintWords Go.Proofs.YtgkemhgihbfmmaaDoorW.PrintLast Go.Proofs.YtgkemhgihbfmmaaDoorW.PrintMore
open Go.Proofs.YtgkemhgihbfmmaaDoor.M
theorem bits_or_nat (a b : Nat) (ha : a < 18446744073709551616) (hb : b < 18446744073709551616) : Go.bits .or .u64 (a : Int) (b : Int) = ((a ||| b : Nat) : Int) := by
  have h1 : (BitVec.ofInt 64 (a : Int)).toNat = a := by rw [BitVec.ofInt_natCast, BitVec.toNat_ofNat]; exact Nat.mod_eq_of_lt ha
  have h2 : (BitVec.ofInt 64 (b : Int)).toNat = b := by rw [BitVec.ofInt_natCast, BitVec.toNat_ofNat]; exact Nat.mod_eq_of_lt hb
  have h3 : Go.bits .or .u64 (a : Int) (b : Int) = IntKind.u64.wrap ((BitVec.ofInt 64 (a : Int) ||| BitVec.ofInt 64 (b : Int)).toNat) := rfl
  rw [h3, BitVec.toNat_or, h1, h2]
  have h4 : a ||| b < 2 ^ 64 := Nat.or_lt_two_pow (by omega) (by omega)
  exact wu64 (by omega) (by omega)
structure Guess (Y a b U u q r : Int) : Prop where
  hY : Y = a * 4294967296 + b
  ha : 2147483648 ≤ a
  ha' : a < 4294967296
  hb : 0 ≤ b
  hb' : b < 4294967296
  hU : 0 ≤ U
  hU' : U < Y
  hu : 0 ≤ u
  hu' : u < 4294967296
  hq : q * a + r = U
  hr : 0 ≤ r
  hr' : r < 4294967296
  hge : (U * 4294967296 + u) / Y ≤ q
theorem Guess.pos {Y a b U u q r : Int} (g : Guess Y a b U u q r) : 0 < Y := by have := g.hY; have := g.ha; have := g.hb; omega
theorem Guess.q0 {Y a b U u q r : Int} (g : Guess Y a b U u q r) : 0 ≤ (U * 4294967296 + u) / Y ∧ (U * 4294967296 + u) / Y < 4294967296 := by
  have hp := g.pos
  constructor
  · exact Int.ediv_nonneg (by have := g.hU; have := g.hu; omega) (Int.le_of_lt hp)
  · apply Int.ediv_lt_of_lt_mul hp
    have := g.hU'; have := g.hu'; omega
theorem Guess.qle {Y a b U u q r : Int} (g : Guess Y a b U u q r) : 0 ≤ q ∧ q ≤ 4294967297 := by
  have h0 := g.q0; have hge := g.hge
  refine ⟨by omega, ?_⟩
  false_or_by_contra
  have h1 : 4294967298 * a ≤ q * a := Int.mul_le_mul_of_nonneg_right (by omega) (by have := g.ha; omega)
  have := g.hq; have := g.hr; have := g.hU'; have := g.hY; have := g.ha; have := g.hb'
  omega
theorem Guess.test {Y a b U u q r : Int} (g : Guess Y a b U u q r) (hq : q < 4294967296) :
    (r * 4294967296 + u < q * b ↔ (U * 4294967296 + u) / Y < q) ∧ 0 ≤ q * b ∧ q * b < 18446744073709551616 := by
  have h0 := g.qle
  have e : q * Y = (q * a) * 4294967296 + q * b := by rw [g.hY, Int.mul_add, Int.mul_assoc]
  have h1 : 0 ≤ q * b := Int.mul_nonneg h0.1 g.hb
  have h2 : q * b ≤ 4294967295 * b := Int.mul_le_mul_of_nonneg_right (by omega) g.hb
  have := g.hb'
  refine ⟨?_, h1, by omega⟩
  have hqq := g.hq
  have h3 : (U * 4294967296 + u) / Y < q ↔ U * 4294967296 + u < q * Y := Int.ediv_lt_iff_lt_mul g.pos
  rw [h3, e]
  generalize q * a = qa at hqq ⊢
  generalize q * b = qb at *
  omega
theorem Guess.back {Y a b U u q r : Int} (g : Guess Y a b U u q r) (h : (U * 4294967296 + u) / Y < q) :
    (4294967296 ≤ r + a → q - 1 = (U * 4294967296 + u) / Y) ∧ (r + a < 4294967296 → Guess Y a b U u (q - 1) (r + a)) := by
  have hqq := g.hq
  have e1 : (q - 1) * a + (r + a) = U := by rw [Int.sub_mul]; omega
  constructor
  · intro hr
    have h0 := g.q0
    have hql := g.qle
    have h1 : (q - 1) * b ≤ 4294967296 * b := Int.mul_le_mul_of_nonneg_right (by omega) g.hb
    have e : (q - 1) * Y = ((q - 1) * a) * 4294967296 + (q - 1) * b := by rw [g.hY, Int.mul_add, Int.mul_assoc]
    have h2 : (q - 1) * Y ≤ U * 4294967296 + u := by
      rw [e]
      have := g.hb'; have := g.hu
      generalize (q - 1) * a = qa at e1 ⊢
      generalize (q - 1) * b = qb at *
      omega
    have h3 : q - 1 ≤ (U * 4294967296 + u) / Y := (Int.le_ediv_iff_mul_le g.pos).2 h2
    omega
  · intro hr
    exact ⟨g.hY, g.ha, g.ha', g.hb, g.hb', g.hU, g.hU', g.hu, g.hu', e1, by have := g.hr; have := g.ha; omega, hr, by omega⟩
theorem Guess.mkk {Y a b U u : Int} (hY : Y = a * 4294967296 + b) (ha : 2147483648 ≤ a) (ha' : a < 4294967296) (hb : 0 ≤ b) (hb' : b < 4294967296) (hU : 0 ≤ U) (hU' : U < Y) (hu : 0 ≤ u) (hu' : u < 4294967296) :
    Guess Y a b U u (U / a) (U - U / a * a) := by
  have hm := Int.emod_add_mul_ediv U a
  have e : U - U / a * a = U % a := by rw [Int.mul_comm]; omega
  have h1 := Int.emod_nonneg U (show a ≠ 0 by omega); have h2 := Int.emod_lt_of_pos U (show 0 < a by omega)
  refine ⟨hY, ha, ha', hb, hb', hU, hU', hu, hu', by omega, by omega, by omega, ?_⟩
  have hp : 0 < Y := by omega
  have h3 : (U * 4294967296 + u) / Y < U / a + 1 := by
    rw [Int.ediv_lt_iff_lt_mul hp, hY]
    have e2 : (U / a + 1) * (a * 4294967296 + b) = (a * (U / a) + a) * 4294967296 + (U / a + 1) * b := by
      rw [Int.mul_add, ← Int.mul_assoc, Int.add_mul (U / a) 1 a, Int.mul_comm (U / a) a]; omega
    have h4 : 0 ≤ (U / a + 1) * b := Int.mul_nonneg (by have := Int.ediv_nonneg hU (show 0 ≤ a by omega); omega) hb
    rw [e2]
    generalize a * (U / a) = p at *
    generalize (U / a + 1) * b = p2 at *
    omega
  omega
theorem div_l0 (Y s a b U u un0 : Int) (K0 : Nat) (R : Int × Int) (h : ∀ k, K0 ≤ k → bits_Div64.j2 k Y s a b U u un0 ((U * 4294967296 + u) / Y) = some R) (m : Nat) :
    ∀ (k : Nat) (q r : Int), K0 + 2 * m + 2 ≤ k → 4294967296 - r ≤ (m : Int) * 2147483648 → Guess Y a b U u q r → bits_Div64.l0 k Y s a b U u un0 q r = some R := by
  induction m with
  | zero => intro k q r _ hm g; have := g.hr'; omega
  | succ m ih =>
    intro k q r hk hm g
    obtain ⟨k, rfl⟩ : ∃ j, k = j + 2 := ⟨k - 2, by omega⟩
    have hql := g.qle; have h0 := g.q0; have hr := g.hr; have hr' := g.hr'; have ha := g.ha; have ha' := g.ha'; have hu := g.hu; have hu' := g.hu'
    have step : ∀ t : Bool, (t = true ↔ (U * 4294967296 + u) / Y < q) → bits_Div64.j1 (k + 1) Y s a b U u un0 q r t = some R := by
      intro t ht
      simp only [bits_Div64.j1]
      by_cases hlt : (U * 4294967296 + u) / Y < q
      · have hb := g.back hlt
        rw [if_pos (ht.2 hlt), wu64 (x := r + a) (by omega) (by omega), wu64 (x := q - 1) (by omega) (by omega)]
        by_cases hbr : r + a ≥ 4294967296
        · rw [if_pos hbr, hb.1 hbr]; exact h k (by omega)
        · rw [if_neg hbr]; exact ih k (q - 1) (r + a) (by omega) (by omega) (hb.2 (by omega))
      · rw [if_neg (fun e => hlt (ht.1 e))]
        have e : q = (U * 4294967296 + u) / Y := by have := g.hge; omega
        rw [e]; exact h k (by omega)
    show bits_Div64.l0 (k + 1 + 1) Y s a b U u un0 q r = some R
    simp only [bits_Div64.l0]
    by_cases hq : q ≥ 4294967296
    · rw [if_pos hq]; exact step true ⟨fun _ => by omega, fun _ => rfl⟩
    · rw [if_neg hq]
      have ht := g.test (by omega)
      refine step _ ?_
      rw [wu64 (x := q * b) ht.2.1 ht.2.2, wu64 (x := 4294967296 * r) (by omega) (by omega), wu64 (by omega) (by omega), decide_eq_true_eq, ← ht.1]
      constructor <;> (intro g; omega)
theorem div_l1 (Y s a b u q1 U : Int) (hs : 0 ≤ s) (m : Nat) :
    ∀ (k : Nat) (q r : Int), 2 * m + 2 ≤ k → 4294967296 - r ≤ (m : Int) * 2147483648 → Guess Y a b U u q r →
      bits_Div64.l1 k Y s a b u q1 r U q = some (IntKind.u64.wrap (IntKind.u64.wrap (q1 * 4294967296) + (U * 4294967296 + u) / Y), shr .u64 (IntKind.u64.wrap (IntKind.u64.wrap (IntKind.u64.wrap (U * 4294967296) + u) - IntKind.u64.wrap ((U * 4294967296 + u) / Y * Y))) s) := by
  induction m with
  | zero => intro k q r _ hm g; have := g.hr'; omega
  | succ m ih =>
    intro k q r hk hm g
    obtain ⟨k, rfl⟩ : ∃ j, k = j + 2 := ⟨k - 2, by omega⟩
    have hql := g.qle; have h0 := g.q0; have hr := g.hr; have hr' := g.hr'; have ha := g.ha; have ha' := g.ha'; have hu := g.hu; have hu' := g.hu'
    have step : ∀ t : Bool, (t = true ↔ (U * 4294967296 + u) / Y < q) → bits_Div64.j4 (k + 1) Y s a b u q1 r U q t = some (IntKind.u64.wrap (IntKind.u64.wrap (q1 * 4294967296) + (U * 4294967296 + u) / Y), shr .u64 (IntKind.u64.wrap (IntKind.u64.wrap (IntKind.u64.wrap (U * 4294967296) + u) - IntKind.u64.wrap ((U * 4294967296 + u) / Y * Y))) s) := by
      intro t ht
      simp only [bits_Div64.j4]
      by_cases hlt : (U * 4294967296 + u) / Y < q
      · have hb := g.back hlt
        rw [if_pos (ht.2 hlt), wu64 (x := r + a) (by omega) (by omega), wu64 (x := q - 1) (by omega) (by omega)]
        by_cases hbr : r + a ≥ 4294967296
        · rw [if_pos hbr, if_pos hs, hb.1 hbr]
        · rw [if_neg hbr]; exact ih k (q - 1) (r + a) (by omega) (by omega) (hb.2 (by omega))
      · rw [if_neg (fun e => hlt (ht.1 e)), if_pos hs]
        have e : q = (U * 4294967296 + u) / Y := by have := g.hge; omega
        rw [← e]
    show bits_Div64.l1 (k + 1 + 1) Y s a b u q1 r U q = _
    simp only [bits_Div64.l1]
    by_cases hq : q ≥ 4294967296
    · rw [if_pos hq]; exact step true ⟨fun _ => by omega, fun _ => rfl⟩
    · rw [if_neg hq]
      have ht := g.test (by omega)
      refine step _ ?_
      rw [wu64 (x := q * b) ht.2.1 ht.2.2, wu64 (x := 4294967296 * r) (by omega) (by omega), wu64 (by omega) (by omega), decide_eq_true_eq, ← ht.1]
      constructor <;> (intro g; omega)
theorem left_over {U u Y : Int} (hU : 0 ≤ U) (hu : 0 ≤ u) (hY : 0 < Y) (hY' : Y < 18446744073709551616) :
    IntKind.u64.wrap (IntKind.u64.wrap (IntKind.u64.wrap (U * 4294967296) + u) - IntKind.u64.wrap ((U * 4294967296 + u) / Y * Y)) = (U * 4294967296 + u) % Y := by
  have h1 := Int.emod_nonneg (U * 4294967296 + u) (Int.ne_of_gt hY)
  have h2 := Int.emod_lt_of_pos (U * 4294967296 + u) hY
  have h3 := Int.emod_add_mul_ediv (U * 4294967296 + u) Y
  rw [Int.mul_comm Y] at h3
  rw [IntKind.wrap_u64, IntKind.wrap_u64, IntKind.wrap_u64, IntKind.wrap_u64]
  generalize (U * 4294967296 + u) / Y * Y = p at h3 ⊢
  generalize (U * 4294967296 + u) % Y = m at h1 h2 h3 ⊢
  omega
theorem div_f0 {k : Nat} {hi lo y s : Int} (hk : 30 ≤ k) (hs0 : 0 ≤ s) (hs1 : s ≤ 63) (hy : 0 < y) (hY0 : 9223372036854775808 ≤ y * 2 ^ s.toNat) (hY1 : y * 2 ^ s.toNat < 18446744073709551616)
    (hh : 0 < hi) (hhy : hi < y) (hl : 0 ≤ lo) (hl' : lo < 18446744073709551616) :
    bits_Div64.l0 k (y * 2 ^ s.toNat) s (y * 2 ^ s.toNat / 4294967296) (y * 2 ^ s.toNat % 4294967296) ((hi * 18446744073709551616 + lo) * 2 ^ s.toNat / 18446744073709551616)
      ((hi * 18446744073709551616 + lo) * 2 ^ s.toNat % 18446744073709551616 / 4294967296) ((hi * 18446744073709551616 + lo) * 2 ^ s.toNat % 4294967296)
      ((hi * 18446744073709551616 + lo) * 2 ^ s.toNat / 18446744073709551616 / (y * 2 ^ s.toNat / 4294967296))
      ((hi * 18446744073709551616 + lo) * 2 ^ s.toNat / 18446744073709551616 - (hi * 18446744073709551616 + lo) * 2 ^ s.toNat / 18446744073709551616 / (y * 2 ^ s.toNat / 4294967296) * (y * 2 ^ s.toNat / 4294967296)) =
    some ((hi * 18446744073709551616 + lo) / y, (hi * 18446744073709551616 + lo) % y) := by
  have hS : (0 : Int) < 2 ^ s.toNat := Int.pow_pos (by decide)
  have hV : (hi * 18446744073709551616 + lo) * 2 ^ s.toNat < 18446744073709551616 * (y * 2 ^ s.toNat) := by
    have h1 : (hi * 18446744073709551616 + lo) * 2 ^ s.toNat < (18446744073709551616 * y) * 2 ^ s.toNat := Int.mul_lt_mul_of_pos_right (by omega) hS
    rw [Int.mul_assoc] at h1; exact h1
  have hV0 : 0 ≤ (hi * 18446744073709551616 + lo) * 2 ^ s.toNat := Int.mul_nonneg (by omega) (by omega)
  have hVv : 0 ≤ hi * 18446744073709551616 + lo := by omega
  have hdv : (hi * 18446744073709551616 + lo) * 2 ^ s.toNat / (y * 2 ^ s.toNat) = (hi * 18446744073709551616 + lo) / y := Int.mul_ediv_mul_of_pos_left _ _ hS
  have hmv : (hi * 18446744073709551616 + lo) * 2 ^ s.toNat % (y * 2 ^ s.toNat) = (hi * 18446744073709551616 + lo) % y * 2 ^ s.toNat := by
    rw [Int.mul_comm _ (2 ^ s.toNat), Int.mul_comm y, Int.mul_emod_mul_of_pos _ _ hS, Int.mul_comm]
  have hmlt := Int.emod_lt_of_pos (hi * 18446744073709551616 + lo) hy
  have hm0 := Int.emod_nonneg (hi * 18446744073709551616 + lo) (Int.ne_of_gt hy)
  have hd0 := Int.ediv_nonneg hVv (Int.le_of_lt hy)
  have hd1 : (hi * 18446744073709551616 + lo) / y < 18446744073709551616 := by
    apply Int.ediv_lt_of_lt_mul hy
    have : hi * 18446744073709551616 + lo < 18446744073709551616 * y := by omega
    omega
  generalize hVg : (hi * 18446744073709551616 + lo) * 2 ^ s.toNat = V at *
  generalize hYg : y * 2 ^ s.toNat = Y at *
  generalize hUg : V / 18446744073709551616 = U at *
  have e1 : V = U * 18446744073709551616 + V % 18446744073709551616 := by omega
  generalize hu1 : V % 18446744073709551616 / 4294967296 = u1 at *
  generalize hu0 : V % 4294967296 = u0 at *
  have e2 : V % 18446744073709551616 = u1 * 4294967296 + u0 := by omega
  have hUY : U < Y := by omega
  have G1 := Guess.mkk (Y := Y) (a := Y / 4294967296) (b := Y % 4294967296) (U := U) (u := u1) (by omega) (by omega) (by omega) (by omega) (by omega) (by omega) hUY (by omega) (by omega)
  have hW1 := Int.emod_nonneg (U * 4294967296 + u1) (show Y ≠ 0 by omega)
  have hW2 := Int.emod_lt_of_pos (U * 4294967296 + u1) (show 0 < Y by omega)
  have hWe := Int.emod_add_mul_ediv (U * 4294967296 + u1) Y
  have hQ1 := G1.q0
  have hlo := left_over (U := U) (u := u1) (Y := Y) (by omega) (by omega) (by omega) hY1
  generalize hWg : (U * 4294967296 + u1) % Y = W at *
  have G2 := Guess.mkk (Y := Y) (a := Y / 4294967296) (b := Y % 4294967296) (U := W) (u := u0) (by omega) (by omega) (by omega) (by omega) (by omega) hW1 hW2 (by omega) (by omega)
  have hlo2 := left_over (U := W) (u := u0) (Y := Y) hW1 (by omega) (by omega) hY1
  have hQ2 := G2.q0
  have hX1 := Int.emod_nonneg (W * 4294967296 + u0) (show Y ≠ 0 by omega)
  have hX2 := Int.emod_lt_of_pos (W * 4294967296 + u0) (show 0 < Y by omega)
  have hXe := Int.emod_add_mul_ediv (W * 4294967296 + u0) Y
  have hVq : V = Y * ((U * 4294967296 + u1) / Y * 4294967296 + (W * 4294967296 + u0) / Y) + (W * 4294967296 + u0) % Y := by
    rw [Int.mul_add, ← Int.mul_assoc]; omega
  have hq : V / Y = (U * 4294967296 + u1) / Y * 4294967296 + (W * 4294967296 + u0) / Y := by
    rw [hVq, Int.add_comm, Int.add_mul_ediv_left _ _ (by omega), Int.ediv_eq_zero_of_lt hX1 hX2]; omega
  have hr : V % Y = (W * 4294967296 + u0) % Y := by
    rw [hVq, Int.add_comm, Int.add_mul_emod_self_left]; exact Int.emod_eq_of_lt hX1 hX2
  have h2 : ∀ k, 7 ≤ k → bits_Div64.j2 k Y s (Y / 4294967296) (Y % 4294967296) U u1 u0 ((U * 4294967296 + u1) / Y) = some ((hi * 18446744073709551616 + lo) / y, (hi * 18446744073709551616 + lo) % y) := by
    intro k hk
    obtain ⟨k, rfl⟩ := succ_of (show 0 < k by omega)
    simp only [bits_Div64.j2]
    have hWa : Int.tdiv W (Y / 4294967296) = W / (Y / 4294967296) := Int.tdiv_eq_ediv_of_nonneg hW1
    have hq2 := G2.qle
    have hrr := G2.hr; have hrr' := G2.hr'
    have hp : 0 ≤ W / (Y / 4294967296) * (Y / 4294967296) := Int.mul_nonneg hq2.1 (by omega)
    rw [if_neg (by omega), hlo, hWa, wu64 (x := W / (Y / 4294967296)) (by omega) (by omega), wu64 (x := W / (Y / 4294967296) * (Y / 4294967296)) hp (by omega), wu64 (by omega) (by omega)]
    rw [div_l1 Y s _ _ u0 _ W hs0 2 k _ _ (by omega) (by omega) G2, hlo2, ← hr, hmv, wu64 (x := (U * 4294967296 + u1) / Y * 4294967296) (by omega) (by omega), ← hq, hdv, wu64 hd0 hd1]
    unfold shr
    have e64 : min s.toNat IntKind.u64.bits = s.toNat := Nat.min_eq_left (by show s.toNat ≤ 64; omega)
    rw [e64, Int.mul_ediv_cancel _ (by omega)]
  exact div_l0 Y s _ _ U u1 u0 7 _ h2 2 k _ _ (by omega) (by have := G1.hr; omega) G1
theorem div_f {k : Nat} {hi lo y : Int} (hk : 30 ≤ k) (hh : 0 ≤ hi) (hhy : hi < y) (hy' : y < 18446744073709551616) (hl : 0 ≤ lo) (hl' : lo < 18446744073709551616) :
    bits_Div64.f k hi lo y = some ((hi * 18446744073709551616 + lo) / y, (hi * 18446744073709551616 + lo) % y) := by
  unfold bits_Div64.f
  rw [if_neg (by omega), if_neg (by omega)]
  by_cases h0 : hi = 0
  · subst h0
    have h1 := Int.ediv_nonneg hl (show 0 ≤ y by omega)
    have h2 : lo / y ≤ lo := Int.ediv_le_self _ hl
    rw [if_pos rfl, Int.tdiv_eq_ediv_of_nonneg hl, Int.tmod_eq_emod_of_nonneg hl, wu64 h1 (by omega)]
    simp
  rw [if_neg h0]
  unfold bits_LeadingZeros64.f
  rw [if_pos ⟨by omega, hy'⟩]
  simp only [Option.bind_some]
  have hbl := Lib.bitLenAux_bounds 64 y.toNat (by omega) (by omega)
  have hble : Lib.bitLenAux 64 y.toNat ≤ 64 := by
    false_or_by_contra
    have h2 : (2 : Nat) ^ 64 ≤ 2 ^ (Lib.bitLenAux 64 y.toNat - 1) := Nat.pow_le_pow_right (by decide) (by omega)
    omega
  have hle : Lib.bitLen y.toNat = Lib.bitLenAux 64 y.toNat := rfl
  rw [hle]
  generalize Lib.bitLenAux 64 y.toNat = n at hbl hble ⊢
  obtain ⟨s, hs⟩ : ∃ s : Nat, 64 = n + s := ⟨64 - n, by omega⟩
  have e1 : (64 : Int) - (n : Int) = (s : Int) := by omega
  have e3 : IntKind.u64.wrap ((64 : Int) - (n : Int)) = (s : Int) := by rw [e1, wu64 (by omega) (by omega)]
  have e2 : IntKind.u64.wrap (64 - (s : Int)) = (n : Int) := by rw [wu64 (by omega) (by omega)]; omega
  rw [e3, e2, if_pos (by omega), if_pos (by omega)]
  have hSp : (0 : Int) < 2 ^ s := Int.pow_pos (by decide)
  have hSN : (2 : Nat) ^ 64 = 2 ^ n * 2 ^ s := by rw [← Nat.pow_add, ← hs]
  have hNN : (2 : Nat) ^ n = 2 ^ (n - 1) * 2 := by rw [← Nat.pow_succ]; congr 1; omega
  have c1 : ((2 ^ s : Nat) : Int) = (2 : Int) ^ s := by rw [Int.natCast_pow]; rfl
  have hyS : y.toNat * 2 ^ s < 2 ^ 64 := by rw [hSN]; exact Nat.mul_lt_mul_of_pos_right hbl.2.2 (Nat.pow_pos (by decide))
  have hyS2 : 2 ^ 63 ≤ y.toNat * 2 ^ s := by
    have h1 : 2 ^ (n - 1) * 2 ^ s ≤ y.toNat * 2 ^ s := Nat.mul_le_mul_right _ hbl.2.1
    have h2 : 2 ^ (n - 1) * 2 ^ s * 2 = 2 ^ 64 := by rw [hSN, hNN]; ac_rfl
    omega
  have cy : ((y.toNat * 2 ^ s : Nat) : Int) = y * 2 ^ s := by rw [Int.natCast_mul, c1]; congr 1; omega
  have hyI1 : y * 2 ^ s < 18446744073709551616 := by omega
  have hyI2 : 9223372036854775808 ≤ y * 2 ^ s := by omega
  have hshl : ∀ x : Int, shl .u64 x (s : Int) = (x * 2 ^ s) % 18446744073709551616 := by
    intro x; unfold shl; rw [IntKind.wrap_u64, Int.toNat_natCast]
    have e64 : min s IntKind.u64.bits = s := Nat.min_eq_left (by show s ≤ 64; omega)
    rw [e64]
  have hshr : shr .u64 lo (n : Int) = lo / 2 ^ n := by
    unfold shr; rw [Int.toNat_natCast]
    have e64 : min n IntKind.u64.bits = n := Nat.min_eq_left (by show n ≤ 64; omega)
    rw [e64]
  have hSI : (18446744073709551616 : Int) = 2 ^ n * 2 ^ s := by rw [← Int.pow_add, ← hs]; decide
  have hNp : (0 : Int) < 2 ^ n := Int.pow_pos (by decide)
  rw [hshl, hshl, hshl, hshr, Int.emod_eq_of_lt (a := y * 2 ^ s) (by omega) hyI1]
  have hhS : hi * 2 ^ s < 18446744073709551616 := by
    have : hi * 2 ^ s < y * 2 ^ s := Int.mul_lt_mul_of_pos_right hhy hSp
    omega
  have hhS0 : 0 ≤ hi * 2 ^ s := Int.mul_nonneg hh (by omega)
  rw [Int.emod_eq_of_lt hhS0 hhS]
  have hlS : lo / 2 ^ n < 2 ^ s := by
    apply Int.ediv_lt_of_lt_mul hNp; rw [Int.mul_comm, ← hSI]; exact hl'
  have hlS0 : 0 ≤ lo / 2 ^ n := Int.ediv_nonneg hl (by omega)
  have hor : Go.bits .or .u64 (hi * 2 ^ s) (lo / 2 ^ n) = hi * 2 ^ s + lo / 2 ^ n := by
    obtain ⟨b, hb⟩ := Int.eq_ofNat_of_zero_le hlS0
    obtain ⟨h', hh'⟩ := Int.eq_ofNat_of_zero_le hh
    have hb2 : b < 2 ^ s := by omega
    have cc : hi * 2 ^ s = ((2 ^ s * h' : Nat) : Int) := by rw [hh', Int.natCast_mul, c1, Int.mul_comm]
    have hc1 : 2 ^ s * h' < 18446744073709551616 := by
      have h5 : ((2 ^ s * h' : Nat) : Int) < 18446744073709551616 := by rw [← cc]; exact hhS
      exact Int.ofNat_lt.1 h5
    have hc2 : b < 18446744073709551616 := by have := Int.ediv_le_self (2 ^ n) hl; omega
    rw [hb, cc, bits_or_nat _ _ hc1 hc2, ← Nat.two_pow_add_eq_or_of_lt hb2, Int.natCast_add]
  rw [hor]
  have hV : (hi * 18446744073709551616 + lo) * 2 ^ s = (hi * 2 ^ s + lo / 2 ^ n) * 18446744073709551616 + (lo * 2 ^ s) % 18446744073709551616 := by
    have h1 : lo * 2 ^ s / 18446744073709551616 = lo / 2 ^ n := by rw [hSI]; exact Int.mul_ediv_mul_of_pos_left _ _ hSp
    have h2 : (hi * 18446744073709551616 + lo) * 2 ^ s = hi * 2 ^ s * 18446744073709551616 + lo * 2 ^ s := by
      rw [Int.add_mul]; congr 1; ac_rfl
    rw [h2, ← h1]; omega
  have hVd : (hi * 18446744073709551616 + lo) * 2 ^ s / 18446744073709551616 = hi * 2 ^ s + lo / 2 ^ n := by rw [hV]; omega
  have hVm : (hi * 18446744073709551616 + lo) * 2 ^ s % 18446744073709551616 = lo * 2 ^ s % 18446744073709551616 := by rw [hV]; omega
  have hVm2 : (hi * 18446744073709551616 + lo) * 2 ^ s % 4294967296 = lo * 2 ^ s % 18446744073709551616 % 4294967296 := by rw [hV]; omega
  have hand : ∀ x : Int, 0 ≤ x → x < 18446744073709551616 → Go.bits .and .u64 x 4294967295 = x % 4294967296 := by
    intro x h1 h2
    obtain ⟨m, rfl⟩ := Int.eq_ofNat_of_zero_le h1
    rw [Mul64.maskN m (by omega)]; omega
  rw [hand _ (by omega) hyI1, hand (lo * 2 ^ s % 18446744073709551616) (by omega) (by omega)]
  have hm := @div_f0 k hi lo y (s : Int) hk (by omega) (by omega) (by omega) (by rw [Int.toNat_natCast]; exact hyI2) (by rw [Int.toNat_natCast]; exact hyI1) (by omega) hhy hl hl'
  rw [Int.toNat_natCast, hVd, hVm, hVm2] at hm
  have hU0 : 0 ≤ hi * 2 ^ s + lo / 2 ^ n := by omega
  have hUlt : hi * 2 ^ s + lo / 2 ^ n < y * 2 ^ s := by
    have h1 : (hi + 1) * 2 ^ s ≤ y * 2 ^ s := Int.mul_le_mul_of_nonneg_right (by omega) (by omega)
    rw [Int.add_mul] at h1; omega
  generalize hi * 2 ^ s + lo / 2 ^ n = U at hm hU0 hUlt ⊢
  generalize y * 2 ^ s = Y at hm hyI1 hyI2 hUlt ⊢
  rw [if_neg (by omega), Int.tdiv_eq_ediv_of_nonneg hU0]
  have g := Guess.mkk (Y := Y) (a := Y / 4294967296) (b := Y % 4294967296) (U := U) (u := 0) (by omega) (by omega) (by omega) (by omega) (by omega) hU0 hUlt (by omega) (by omega)
  have hq := g.qle; have hr := g.hr; have hr' := g.hr'
  have hp : 0 ≤ U / (Y / 4294967296) * (Y / 4294967296) := Int.mul_nonneg hq.1 (by omega)
  rw [wu64 (x := U / (Y / 4294967296)) (by omega) (by omega), wu64 (x := U / (Y / 4294967296) * (Y / 4294967296)) hp (by omega), wu64 (x := U - U / (Y / 4294967296) * (Y / 4294967296)) (by omega) (by omega)]
  exact hm
end Go.Proofs.YtgkemhgihbfmmaaDoor.PA
end
section
namespace Go.Proofs.YtgkemhgihbfmmaaDoor.PA
open Go.RowKit Go.Proofs.YtgkemhgihbfmmaaDoorW.PrintWords Go.Proofs.YtgkemhgihbfmmaaDoorW.PrintLast Go.Proofs.YtgkemhgihbfmmaaDoorW.PrintMore
open Go.Proofs.YtgkemhgihbfmmaaDoor.M
theorem pow_le {a b : Nat} (h : a ≤ b) : (10 : Int) ^ a ≤ 10 ^ b := by
  obtain ⟨c, rfl⟩ := Nat.exists_eq_add_of_le h
  rw [Int.pow_add]
  have h1 := pow_pos a; have h2 := pow_pos c
  have h3 : (10 : Int) ^ a * 1 ≤ 10 ^ a * 10 ^ c := Int.mul_le_mul_of_nonneg_left (by omega) (by omega)
  omega
theorem pow_6 {a : Nat} (h : a ≤ 6) : 1 ≤ (10 : Int) ^ a ∧ (10 : Int) ^ a ≤ 1000000 := by
  have h1 := pow_pos a; have h2 := pow_le h
  have e : (10 : Int) ^ 6 = 1000000 := by decide
  omega
theorem pow_12 {a : Nat} (h : a ≤ 12) : 1 ≤ (10 : Int) ^ a ∧ (10 : Int) ^ a ≤ 1000000000000 := by
  have h1 := pow_pos a; have h2 := pow_le h
  have e : (10 : Int) ^ 12 = 1000000000000 := by decide
  omega
def un (n s : Int) : Int := n * 10 ^ (6 - s).toNat
theorem mul_bound {n p N P : Int} (h1 : -N ≤ n) (h2 : n ≤ N) (h3 : 0 ≤ p) (h4 : p ≤ P) (hN : 0 ≤ N) : -(N * P) ≤ n * p ∧ n * p ≤ N * P := by
  have a1 : n * p ≤ N * p := Int.mul_le_mul_of_nonneg_right h2 h3
  have a2 : N * p ≤ N * P := Int.mul_le_mul_of_nonneg_left h4 hN
  have a3 : -N * p ≤ n * p := Int.mul_le_mul_of_nonneg_right h1 h3
  rw [Int.neg_mul] at a3; omega
theorem un_bound {n s : Int} (h : Snd n s) : -999999999999000000 ≤ un n s ∧ un n s ≤ 999999999999000000 := by
  obtain ⟨h0, h1, h2, h3, _⟩ := h
  have hp := pow_6 (a := (6 - s).toNat) (by omega)
  have := mul_bound (N := 999999999999) (P := 1000000) h2 h3 (by omega) hp.2 (by decide)
  unfold un; omega
theorem units_f {k : Nat} (hk : 40 ≤ k) {n s : Int} (h : Snd n s) : deci_units.f k n s = some (un n s) := by
  have hb := un_bound h
  obtain ⟨h0, h1, h2, h3, _⟩ := h
  have hp := pow_6 (a := (6 - s).toNat) (by omega)
  unfold deci_units.f
  rw [w64 (by omega) (by omega), power_f (by omega) (by omega) (by omega)]
  simp only [obs]
  rw [w64 (x := (10 : Int) ^ (6 - s).toNat) (by omega) (by omega)]
  rw [show n * 10 ^ (6 - s).toNat = un n s from rfl, w64 (by omega) (by omega)]
theorem even_f {k : Nat} (hk : 40 ≤ k) {hi lo b : Int} (hh : 0 ≤ hi) (hl : 0 ≤ lo) (hl' : lo < 18446744073709551616) (hb : 0 < b) (hb' : b < 4611686018427387904) :
    deci_even.f k hi lo b = some (if rhe (hi * 18446744073709551616 + lo) b < 18446744073709551616 then (rhe (hi * 18446744073709551616 + lo) b, true) else (0, false)) := by
  unfold deci_even.f
  have hm := Int.emod_nonneg (hi * 18446744073709551616 + lo) (Int.ne_of_gt hb); have hm2 := Int.emod_lt_of_pos (hi * 18446744073709551616 + lo) hb
  have hd := Int.ediv_nonneg (show 0 ≤ hi * 18446744073709551616 + lo by omega) (Int.le_of_lt hb)
  by_cases h : hi ≥ b
  · rw [if_pos h]
    have h1 : 18446744073709551616 ≤ (hi * 18446744073709551616 + lo) / b := by
      apply (Int.le_ediv_iff_mul_le hb).2; omega
    rw [if_neg]
    unfold rhe; split <;> omega
  · rw [if_neg h, div_f (by omega) hh (by omega) (by omega) hl hl']
    simp only [obs]
    have hlt : (hi * 18446744073709551616 + lo) / b < 18446744073709551616 := by
      apply Int.ediv_lt_of_lt_mul hb; omega
    obtain ⟨k, rfl⟩ := succ_of (show 0 < k by omega)
    rw [wu64 (by omega) (by omega)]
    unfold rhe
    generalize (hi * 18446744073709551616 + lo) / b = q at *
    generalize (hi * 18446744073709551616 + lo) % b = r at *
    have hup : b < 2 * r ∨ 2 * r = b ∧ q % 2 = 1 → deci_even.j0 (k + 1) q true = some (if q + 1 < 18446744073709551616 then (q + 1, true) else (0, false)) := by
      intro _
      simp only [deci_even.j0, if_true]
      by_cases hq : q + 1 < 18446744073709551616
      · rw [wu64 (by omega) hq, if_neg (by omega), if_pos hq]
      · have e : q + 1 = 18446744073709551616 := by omega
        rw [e, if_pos (by rw [IntKind.wrap_u64]; decide), if_neg (by omega)]
    have hdn : deci_even.j0 (k + 1) q false = some (q, true) := by simp [deci_even.j0]
    by_cases h1 : r > b - r
    · rw [if_pos h1, hup (.inl (by omega))]; rw [if_pos (show b < 2 * r ∨ 2 * r = b ∧ q % 2 = 1 from .inl (by omega))]
    · rw [if_neg h1]
      by_cases h2 : r = b - r
      · rw [if_pos h2, Int.tmod_eq_emod_of_nonneg hd]
        by_cases h3 : q % 2 = 1
        · rw [show (q % 2 == 1) = true from beq_iff_eq.2 h3, hup (.inr ⟨by omega, h3⟩)]; rw [if_pos (show b < 2 * r ∨ 2 * r = b ∧ q % 2 = 1 from .inr ⟨by omega, h3⟩)]
        · rw [show (q % 2 == 1) = false from beq_eq_false_iff_ne.2 h3, hdn, if_neg (show ¬ (b < 2 * r ∨ 2 * r = b ∧ q % 2 = 1) by omega), if_pos hlt]
      · rw [if_neg h2, hdn, if_neg (show ¬ (b < 2 * r ∨ 2 * r = b ∧ q % 2 = 1) by omega), if_pos hlt]
theorem natAbs_mul_bound {n p P : Int} (h1 : -999999999999 ≤ n) (h2 : n ≤ 999999999999) (h3 : 0 ≤ p) (h4 : p ≤ P) : 0 ≤ (n.natAbs : Int) * p ∧ (n.natAbs : Int) * p ≤ 999999999999 * P := by
  refine ⟨Int.mul_nonneg (by omega) h3, ?_⟩
  have a1 : (n.natAbs : Int) * p ≤ 999999999999 * p := Int.mul_le_mul_of_nonneg_right (by omega) h3
  have a2 : 999999999999 * p ≤ 999999999999 * P := Int.mul_le_mul_of_nonneg_left h4 (by decide)
  omega
theorem mul64_f {a b : Int} (h1 : 0 ≤ a) (h2 : a < 18446744073709551616) (h3 : 0 ≤ b) (h4 : b < 18446744073709551616) : bits_Mul64.f a b = some (a * b / 18446744073709551616, a * b % 18446744073709551616) := by
  unfold bits_Mul64.f; rw [if_pos ⟨h1, h2, h3, h4⟩]
theorem decS_big {n : Int} {s : Nat} {m : Bool} (hs : s ≤ 6) (h : 18446744073709551616 ≤ n) : decS n s m = (0, 0, 3) := by
  unfold decS; rw [if_pos (sh_big s n hs (by omega))]
def divS (n s n' s' : Int) : Int × Int × Int :=
  if Snd n s ∧ Snd n' s' then (if n' = 0 then (0, 0, 4) else decS (rhe ((n.natAbs : Int) * 10 ^ (6 - s + s').toNat) n'.natAbs) 6 ((decide (n < 0)) != (decide (n' < 0)))) else (0, 0, 2)
theorem div_ff {k : Nat} (hk : 40 ≤ k) (n s n' s' : Int) : deci_Div.f k n s n' s' = some (divS n s n' s') := by
  unfold deci_Div.f divS
  rw [all_two (by omega)]
  simp only [obs]
  by_cases h : Snd n s ∧ Snd n' s'
  · rw [if_pos h, if_pos rfl, if_pos h]
    by_cases h0 : n' = 0
    · rw [if_pos h0, if_pos h0]
    rw [if_neg h0, if_neg h0, size_f h.1, size_f h.2]
    obtain ⟨⟨a0, a1, a2, a3, _⟩, ⟨b0, b1, b2, b3, _⟩⟩ := h
    simp only [obs]
    rw [w64 (x := 6 - s) (by omega) (by omega), w64 (x := 6 - s + s') (by omega) (by omega), power_f (by omega) (by omega) (by omega)]
    have hp := pow_12 (a := (6 - s + s').toNat) (by omega)
    simp only [obs]
    rw [mul64_f (by omega) (by omega) (by omega) (by omega)]
    have hm := natAbs_mul_bound a2 a3 (show 0 ≤ (10 : Int) ^ (6 - s + s').toNat by omega) hp.2
    simp only [obs]
    generalize (n.natAbs : Int) * 10 ^ (6 - s + s').toNat = V at *
    rw [even_f hk (by omega) (by omega) (by omega) (by omega) (by omega)]
    have e : V / 18446744073709551616 * 18446744073709551616 + V % 18446744073709551616 = V := by omega
    rw [e]
    simp only [obs]
    have hr := rhe_nonneg V n'.natAbs hm.1 (by omega)
    by_cases hq : rhe V n'.natAbs < 18446744073709551616
    · rw [if_pos hq]; simp only [if_true]
      rw [dec_f (by omega) hr hq (by decide) (by decide), show (6 : Int).toNat = 6 from rfl]; simp only [obs, Prod.eta]
    · rw [if_neg hq]; simp only [Bool.false_eq_true, if_false]
      rw [decS_big (by decide) (by omega)]
  · rw [if_neg h, if_neg (by decide), if_neg h]
def mulS (n s n' s' : Int) : Int × Int × Int :=
  if Snd n s ∧ Snd n' s' then decS (rhe ((n.natAbs : Int) * n'.natAbs) (10 ^ (s + s' - 6).toNat)) (mn (s + s') 6).toNat ((decide (n < 0)) != (decide (n' < 0))) else (0, 0, 2)
theorem mul_ff {k : Nat} (hk : 40 ≤ k) (n s n' s' : Int) : deci_Mul.f k n s n' s' = some (mulS n s n' s') := by
  unfold deci_Mul.f mulS
  rw [all_two (by omega)]
  simp only [obs]
  by_cases h : Snd n s ∧ Snd n' s'
  · rw [if_pos h, if_pos rfl, if_pos h, size_f h.1, size_f h.2]
    obtain ⟨⟨a0, a1, a2, a3, _⟩, ⟨b0, b1, b2, b3, _⟩⟩ := h
    simp only [obs]
    rw [mul64_f (by omega) (by omega) (by omega) (by omega)]
    have hm := natAbs_mul_bound a2 a3 (p := (n'.natAbs : Int)) (P := 999999999999) (by omega) (by omega)
    simp only [obs]
    rw [w64 (x := s + s') (by omega) (by omega), w64 (x := s + s' - 6) (by omega) (by omega)]
    have emx : mx 0 (s + s' - 6) = ((s + s' - 6).toNat : Int) := by unfold mx; split <;> omega
    have emn : 0 ≤ mn (s + s') 6 ∧ mn (s + s') 6 ≤ 6 := by unfold mn; split <;> omega
    have hp := pow_6 (a := (s + s' - 6).toNat) (by omega)
    rw [emx, power_f (by omega) (by omega) (by omega), Int.toNat_natCast]
    simp only [obs]
    generalize (n.natAbs : Int) * (n'.natAbs : Int) = V at *
    rw [even_f hk (by omega) (by omega) (by omega) (by omega) (by omega)]
    have e : V / 18446744073709551616 * 18446744073709551616 + V % 18446744073709551616 = V := by omega
    rw [e]
    simp only [obs]
    have hr := rhe_nonneg V (10 ^ (s + s' - 6).toNat) hm.1 (by omega)
    by_cases hq : rhe V (10 ^ (s + s' - 6).toNat) < 18446744073709551616
    · rw [if_pos hq]; simp only [if_true]
      rw [dec_f (by omega) hr hq emn.1 emn.2]; simp only [obs, Prod.eta]
    · rw [if_neg hq]; simp only [Bool.false_eq_true, if_false]
      rw [decS_big (by omega) (by omega)]
  · rw [if_neg h, if_neg (by decide), if_neg h]
def addS (n s n' s' : Int) : Int × Int × Int :=
  if Snd n s ∧ Snd n' s' then decS ((un n s + un n' s').natAbs : Int) 6 (decide (un n s + un n' s' < 0)) else (0, 0, 2)
theorem add_ff {k : Nat} (hk : 40 ≤ k) (n s n' s' : Int) : deci_Add.f k n s n' s' = some (addS n s n' s') := by
  unfold deci_Add.f addS
  rw [all_two (by omega)]
  simp only [obs]
  by_cases h : Snd n s ∧ Snd n' s'
  · rw [if_pos h, if_pos rfl, if_pos h, units_f hk h.1, units_f hk h.2]
    have h1 := un_bound h.1; have h2 := un_bound h.2
    simp only [obs]
    rw [w64 (x := un n s + un n' s') (by omega) (by omega), mx_abs (by omega) (by omega), dec_f (by omega) (by omega) (by omega) (by decide) (by decide), show (6 : Int).toNat = 6 from rfl]; simp only [obs, Prod.eta]
  · rw [if_neg h, if_neg (by decide), if_neg h]
def cmpS (n s n' s' : Int) : Int × Int :=
  if Snd n s ∧ Snd n' s' then (if un n s < un n' s' then -1 else if un n' s' < un n s then 1 else 0, 0) else (0, 2)
theorem compare_ff {k : Nat} (hk : 40 ≤ k) (n s n' s' : Int) : deci_Compare.f k n s n' s' = some (cmpS n s n' s') := by
  unfold deci_Compare.f cmpS
  rw [all_two (by omega)]
  simp only [obs]
  by_cases h : Snd n s ∧ Snd n' s'
  · rw [if_pos h, if_pos rfl, if_pos h, units_f hk h.1, units_f hk h.2]
    simp only [obs]
    unfold cmp_Compare_int.f cmp_isNaN_int.f
    simp only [bne_self_eq_false, obs, Bool.false_eq_true, if_false]
    by_cases g : un n s < un n' s'
    · simp [g]
    · by_cases g2 : un n' s' < un n s
      · simp [g, g2]
      · simp [g, g2]
  · rw [if_neg h, if_neg (by decide), if_neg h]
end Go.Proofs.YtgkemhgihbfmmaaDoor.PA
end
section
namespace Go.Proofs.YtgkemhgihbfmmaaDoor.PA
open Go.RowKit Go.Proofs.YtgkemhgihbfmmaaDoorW.PrintWords Go.Proofs.YtgkemhgihbfmmaaDoorW.PrintLast Go.Proofs.YtgkemhgihbfmmaaDoorW.PrintMore
open Go.Proofs.YtgkemhgihbfmmaaDoor.M
theorem awake_laws : soffitlaw01_awake.f 500 = some true := by decide +kernel
theorem addS_comm (n s n' s' : Int) : addS n s n' s' = addS n' s' n s := by
  unfold addS; rw [Int.add_comm (un n s)]
  by_cases h : Snd n s ∧ Snd n' s'
  · rw [if_pos h, if_pos ⟨h.2, h.1⟩]
  · rw [if_neg h, if_neg (fun g => h ⟨g.2, g.1⟩)]
theorem mulS_comm (n s n' s' : Int) : mulS n s n' s' = mulS n' s' n s := by
  unfold mulS; rw [Int.mul_comm (n.natAbs : Int), Int.add_comm s, show ((decide (n < 0)) != (decide (n' < 0))) = ((decide (n' < 0)) != (decide (n < 0))) by cases decide (n < 0) <;> cases decide (n' < 0) <;> rfl]
  by_cases h : Snd n s ∧ Snd n' s'
  · rw [if_pos h, if_pos ⟨h.2, h.1⟩]
  · rw [if_neg h, if_neg (fun g => h ⟨g.2, g.1⟩)]
theorem un_decS (u : Int) (h : (decS (u.natAbs : Int) 6 (decide (u < 0))).2.2 = 0) :
    Snd (decS (u.natAbs : Int) 6 (decide (u < 0))).1 (decS (u.natAbs : Int) 6 (decide (u < 0))).2.1 ∧ un (decS (u.natAbs : Int) 6 (decide (u < 0))).1 (decS (u.natAbs : Int) 6 (decide (u < 0))).2.1 = u := by
  refine ⟨decS_sound _ _ _ (by omega) (by omega) h, ?_⟩
  unfold decS at h ⊢
  by_cases h1 : 999999999999 < (sh 6 (u.natAbs : Int)).1
  · rw [if_pos h1] at h; cases h
  · rw [if_neg h1]
    obtain ⟨t, ht, h2, h3, _⟩ := sh_spec 6 (u.natAbs : Int)
    unfold un
    simp only [h2]
    have e : (6 - ((6 - t : Nat) : Int)).toNat = t := by omega
    rw [e]
    by_cases hu : u < 0
    · rw [if_pos (by simpa using hu), Int.neg_mul, ← h3]; omega
    · rw [if_neg (by simpa using hu), ← h3]; omega
theorem addS_ok {n s n' s' : Int} (h : (addS n s n' s').2.2 = 0) :
    Snd n s ∧ Snd n' s' ∧ Snd (addS n s n' s').1 (addS n s n' s').2.1 ∧ un (addS n s n' s').1 (addS n s n' s').2.1 = un n s + un n' s' := by
  unfold addS at h ⊢
  by_cases g : Snd n s ∧ Snd n' s'
  · rw [if_pos g] at h ⊢
    exact ⟨g.1, g.2, un_decS _ h⟩
  · rw [if_neg g] at h; cases h
theorem decS_err (n : Int) (s : Nat) (m : Bool) : (decS n s m).2.2 = 0 ∨ (decS n s m).2.2 = 3 := by
  unfold decS; split
  · exact Or.inr rfl
  · exact Or.inl rfl
theorem mul_div (n s x : Int) (h : Snd n s) (hx : Snd x 0) (h0 : x ≠ 0) (he : (mulS n s x 0).2.2 = 0) :
    divS (mulS n s x 0).1 (mulS n s x 0).2.1 x 0 = (n, s, 0) := by
  have hm : mulS n s x 0 = decS ((n.natAbs : Int) * x.natAbs) s.toNat ((decide (n < 0)) != (decide (x < 0))) := by
    unfold mulS
    obtain ⟨h1, h2, _, _, _⟩ := id h
    rw [if_pos ⟨h, hx⟩, show (s + 0 - 6).toNat = 0 by omega, Int.pow_zero, rhe_one, show (mn (s + 0) 6) = s by unfold mn; split <;> omega]
  rw [hm] at he ⊢
  have hn : (0 : Int) ≤ (n.natAbs : Int) * x.natAbs := Int.mul_nonneg (by omega) (by omega)
  have hs := decS_sound ((n.natAbs : Int) * x.natAbs) s.toNat ((decide (n < 0)) != (decide (x < 0))) hn (by have := h.2.1; omega) he
  unfold divS
  rw [if_pos ⟨hs, hx⟩, if_neg h0]
  obtain ⟨h1, h2, h3, h4, h5⟩ := h
  unfold decS at he ⊢
  by_cases hb : 999999999999 < (sh s.toNat ((n.natAbs : Int) * x.natAbs)).1
  · rw [if_pos hb] at he; cases he
  · rw [if_neg hb]
    obtain ⟨t, ht, e2, e3, _⟩ := sh_spec s.toNat ((n.natAbs : Int) * x.natAbs)
    have hA := sh_nonneg s.toNat ((n.natAbs : Int) * x.natAbs) hn
    simp only [e2]
    generalize (sh s.toNat ((n.natAbs : Int) * x.natAbs)).1 = A at e3 hA
    have hab : ∀ m : Bool, ((if m = true then -A else A).natAbs : Int) = A := fun m => by cases m <;> simp <;> omega
    rw [hab]
    have hp : A * 10 ^ (6 - ((s.toNat - t : Nat) : Int) + 0).toNat = ((n.natAbs : Int) * 10 ^ (6 - s).toNat) * x.natAbs := by
      rw [show (6 - ((s.toNat - t : Nat) : Int) + 0).toNat = t + (6 - s).toNat by omega, Int.pow_add, ← Int.mul_assoc, ← e3, Int.mul_assoc, Int.mul_assoc, Int.mul_comm (x.natAbs : Int)]
    rw [hp, rhe_exact _ _ (by omega)]
    have hsh : sh 6 ((n.natAbs : Int) * 10 ^ (6 - s).toNat) = ((n.natAbs : Int), s) := by
      rw [show 6 = s.toNat + (6 - s).toNat by omega]
      rw [sh_pow, sh_id _ _ (by omega)]
      rw [show ((s.toNat : Nat) : Int) = s by omega]
    rw [hsh, if_neg (by simp only; omega)]
    have hz : A = 0 ↔ n = 0 := by
      constructor
      · intro z; subst z
        rw [Int.zero_mul] at e3
        rcases Int.mul_eq_zero.1 e3 with z | z <;> omega
      · intro z; subst z
        simp only [Int.natAbs_zero, Int.natCast_zero, Int.zero_mul] at e3
        have := pow_pos t
        rcases Int.mul_eq_zero.1 e3.symm with z | z <;> omega
    simp only [Prod.mk.injEq, and_true]
    by_cases hn0 : n = 0
    · subst hn0; simp
    · have hA0 : 0 < A := by have := mt hz.1 hn0; omega
      by_cases c1 : n < 0 <;> by_cases c2 : x < 0 <;> simp [c1, c2, show ¬ A < 0 by omega, hA0] <;> omega
theorem laws_j3 (k : Nat) (hk : 60 ≤ k) (n s x : Int) (h : Snd n s) (hx : Snd x 0) (h0 : x ≠ 0) : soffitlaw01_DeciLaws.j3 k false n s x 0 = some true := by
  obtain ⟨m, rfl⟩ := succ_of (by omega : 0 < k)
  rw [soffitlaw01_DeciLaws.j3, if_neg (by simp), mul_ff (by omega)]
  simp only [obs]
  by_cases he : (mulS n s x 0).2.2 = 0
  · rw [if_pos he, div_ff (by omega)]
    simp only [obs]
    rw [mul_div n s x h hx h0 he]
    simp
  · rw [if_neg he]
    have : (mulS n s x 0).2.2 = 3 := by
      unfold mulS at he ⊢
      rw [if_pos ⟨h, hx⟩] at he ⊢
      exact (decS_err _ _ _).resolve_left he
    rw [this]; rfl
theorem laws_j2 (k : Nat) (hk : 100 ≤ k) (n s x : Int) (h : Snd n s) (h1 : -32768 ≤ x) (h2 : x ≤ 32767) : soffitlaw01_DeciLaws.j2 k x n s = some true := by
  obtain ⟨m, rfl⟩ := succ_of (by omega : 0 < k)
  obtain ⟨m, rfl⟩ := succ_of (by omega : 0 < m)
  rw [soffitlaw01_DeciLaws.j2, w64 (by omega) (by omega)]
  by_cases c : x = 0
  · rw [if_pos c, soffitlaw01_DeciLaws.j3, if_pos rfl]
  · rw [if_neg c, refsound_f (by omega)]
    simp only [obs]
    have hx : Snd x 0 := ⟨by omega, by omega, by omega, by omega, Or.inl rfl⟩
    rw [decide_eq_true hx]
    exact laws_j3 _ (by omega) n s x h hx c
theorem deciLaws_true (n s n' s' n'' s'' x : Int) (_ : -9223372036854775808 ≤ n ∧ n ≤ 9223372036854775807) (_ : -9223372036854775808 ≤ s ∧ s ≤ 9223372036854775807)
    (_ : -9223372036854775808 ≤ n' ∧ n' ≤ 9223372036854775807) (_ : -9223372036854775808 ≤ s' ∧ s' ≤ 9223372036854775807)
    (_ : -9223372036854775808 ≤ n'' ∧ n'' ≤ 9223372036854775807) (_ : -9223372036854775808 ≤ s'' ∧ s'' ≤ 9223372036854775807) (hx : -32768 ≤ x ∧ x ≤ 32767) :
    soffitlaw01_DeciLaws.f 500 n s n' s' n'' s'' x = some true := by
  unfold soffitlaw01_DeciLaws.f
  rw [add_ff (by omega), add_ff (by omega), mul_ff (by omega), mul_ff (by omega), awake_laws, addS_comm n' s' n s, mulS_comm n' s' n s]
  simp only [obs, if_true, beq_self_eq_true, Bool.not_true, Bool.or_self, Bool.false_eq_true, if_false, bne_self_eq_false]
  rw [soffitlaw01_DeciLaws.j0, if_neg (by simp)]
  by_cases he : (addS n s n' s').2.2 = 0
  · rw [if_pos he, add_ff (by omega), compare_ff (by omega)]
    simp only [obs]
    obtain ⟨ha, hb, hx1, hx2⟩ := addS_ok he
    by_cases hz : (addS n'' s'' n' s').2.2 = 0
    · rw [if_pos hz]
      obtain ⟨hc, _, hz1, hz2⟩ := addS_ok hz
      rw [soffitlaw01_DeciLaws.j1]
      have hcmp : cmpS n s n'' s'' = (if un n s < un n'' s'' then -1 else if un n'' s'' < un n s then 1 else 0, 0) := if_pos ⟨ha, hc⟩
      rw [compare_ff (by omega), show cmpS (addS n s n' s').1 (addS n s n' s').2.1 (addS n'' s'' n' s').1 (addS n'' s'' n' s').2.1 = cmpS n s n'' s'' by
        rw [hcmp]; unfold cmpS; rw [if_pos ⟨hx1, hz1⟩, hx2, hz2]
        simp only [Prod.mk.injEq, and_true]
        by_cases c1 : un n s < un n'' s''
        · rw [if_pos c1, if_pos (by omega)]
        · by_cases c2 : un n'' s'' < un n s
          · rw [if_neg c1, if_pos c2, if_neg (by omega), if_pos (by omega)]
          · rw [if_neg c1, if_neg c2, if_neg (by omega), if_neg (by omega)]]
      simp only [obs, hcmp, if_true, beq_self_eq_true]
      exact laws_j2 _ (by omega) n s x ha hx.1 hx.2
    · rw [if_neg hz, soffitlaw01_DeciLaws.j1, if_neg (by simp)]
      exact laws_j2 _ (by omega) n s x ha hx.1 hx.2
  · rw [if_neg he]
end Go.Proofs.YtgkemhgihbfmmaaDoor.PA
end
