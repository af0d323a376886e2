/- Part 17 of the proof for Back: functions of the program as plain Lean functions, their calls, and what they come to. -/
import Derived.RowKit
import Derived.Laws.BitsLemmas
import Derived.Shelf.Bits.Mul64
import Derived.Laws.BytesArg
import Derived.Test.YtgkemhgihbfmmaaDoorBackK14
import Derived.Test.YtgkemhgihbfmmaaDoorBackK2
import Derived.Test.YtgkemhgihbfmmaaDoorBackK15
set_option linter.unusedVariables false
set_option linter.unusedSimpArgs false
section
namespace Go.Proofs.YtgkemhgihbfmmaaDoor.M
def sh : Nat → Int → Int × Int
  | 0, n => (n, 0)
  | s + 1, n => if n % 10 = 0 then sh s (n / 10) else (n, (s : Int) + 1)
theorem sh_id (s : Nat) (n : Int) (h : s = 0 ∨ n % 10 ≠ 0) : sh s n = (n, (s : Int)) := by
  cases s with
  | zero => rfl
  | succ s =>
    have h' : ¬ n % 10 = 0 := by omega
    simp [sh, h']
theorem sh_neg (s : Nat) : ∀ n : Int, sh s (-n) = (-(sh s n).1, (sh s n).2) := by
  induction s with
  | zero => intro n; rfl
  | succ s ih =>
    intro n
    by_cases h : n % 10 = 0
    · have h2 : (-n) % 10 = 0 := by omega
      have h3 : (-n) / 10 = -(n / 10) := by omega
      simp only [sh, h, h2, if_true, h3, ih]
    · have h2 : ¬ (-n) % 10 = 0 := by omega
      simp only [sh, h, h2, if_false]
theorem sh_spec (s : Nat) : ∀ n : Int, ∃ t : Nat, t ≤ s ∧ (sh s n).2 = ((s - t : Nat) : Int) ∧ n = (sh s n).1 * 10 ^ t ∧ ((sh s n).2 = 0 ∨ (sh s n).1 % 10 ≠ 0) := by
  induction s with
  | zero => intro n; exact ⟨0, Nat.le_refl _, rfl, by simp [sh], .inl rfl⟩
  | succ s ih =>
    intro n
    by_cases h : n % 10 = 0
    · obtain ⟨t, h1, h2, h3, h4⟩ := ih (n / 10)
      refine ⟨t + 1, by omega, ?_, ?_, ?_⟩
      · simp only [sh, h, if_true]; rw [h2]; congr 1; omega
      · simp only [sh, h, if_true]
        have e : n = (n / 10) * 10 := by omega
        rw [Int.pow_succ, ← Int.mul_assoc, ← h3]; exact e
      · simp only [sh, h, if_true]; exact h4
    · refine ⟨0, Nat.zero_le _, ?_, ?_, ?_⟩
      · simp [sh, h]
      · simp [sh, h]
      · simp only [sh, h, if_false]; exact .inr h
theorem sh_nonneg (s : Nat) : ∀ n : Int, 0 ≤ n → 0 ≤ (sh s n).1 ∧ (sh s n).1 ≤ n := by
  induction s with
  | zero => intro n h; simp only [sh]; omega
  | succ s ih =>
    intro n h
    by_cases h1 : n % 10 = 0
    · have := ih (n / 10) (by omega)
      simp only [sh, h1, if_true]; omega
    · simp only [sh, h1, if_false]; omega
theorem sh_le (s : Nat) : ∀ n : Int, 0 ≤ (sh s n).2 ∧ (sh s n).2 ≤ s := by
  intro n; obtain ⟨t, h1, h2, _, _⟩ := sh_spec s n; rw [h2]; omega
theorem sh_pow (s t : Nat) (n : Int) : sh (s + t) (n * 10 ^ t) = sh s n := by
  induction t with
  | zero => simp
  | succ t ih =>
    have h1 : (n * 10 ^ (t + 1)) % 10 = 0 := by rw [Int.pow_succ, ← Int.mul_assoc]; exact Int.mul_emod_left _ _
    have h2 : (n * 10 ^ (t + 1)) / 10 = n * 10 ^ t := by rw [Int.pow_succ, ← Int.mul_assoc]; exact Int.mul_ediv_cancel _ (by decide)
    rw [← Nat.add_assoc]; simp only [sh, h1, if_true, h2, ih]
def decS (n : Int) (s : Nat) (m : Bool) : Int × Int × Int :=
  if 999999999999 < (sh s n).1 then (0, 0, 3) else (if m = true then -(sh s n).1 else (sh s n).1, (sh s n).2, 0)
def Snd (n s : Int) : Prop := 0 ≤ s ∧ s ≤ 6 ∧ -999999999999 ≤ n ∧ n ≤ 999999999999 ∧ (s = 0 ∨ n % 10 ≠ 0)
instance (n s : Int) : Decidable (Snd n s) := by unfold Snd; infer_instance
def mk (n s : Int) : Int × Int × Int :=
  if s < 0 ∨ 6 < s ∨ 999999999999 < n ∨ n < -999999999999 then (0, 0, 3) else ((sh s.toNat n).1, (sh s.toNat n).2, 0)
theorem mk_sound (n s : Int) (h : Snd n s) : mk n s = (n, s, 0) := by
  obtain ⟨h0, h1, h2, h3, h4⟩ := h
  unfold mk; rw [if_neg (by omega)]
  rw [sh_id s.toNat n (by omega)]; simp only [Prod.mk.injEq, and_true, true_and]; omega
theorem mk_unsound (n s : Int) (h : ¬ Snd n s) : ¬ ((mk n s).2.2 = 0 ∧ (mk n s).1 = n ∧ (mk n s).2.1 = s) := by
  unfold mk
  by_cases h1 : s < 0 ∨ 6 < s ∨ 999999999999 < n ∨ n < -999999999999
  · rw [if_pos h1]; simp
  · rw [if_neg h1]
    rintro ⟨_, h2, h3⟩
    apply h
    refine ⟨by omega, by omega, by omega, by omega, ?_⟩
    obtain ⟨t, _, _, _, h4⟩ := sh_spec s.toNat n
    simp only at h2 h3
    rw [h2, h3] at h4; exact h4
theorem decS_sound (n : Int) (s : Nat) (m : Bool) (hn : 0 ≤ n) (hs : s ≤ 6) (h : (decS n s m).2.2 = 0) : Snd (decS n s m).1 (decS n s m).2.1 := by
  unfold decS at h ⊢
  by_cases h1 : 999999999999 < (sh s n).1
  · rw [if_pos h1] at h; simp at h
  · rw [if_neg h1]
    have h2 := sh_nonneg s n hn; have h3 := sh_le s n
    obtain ⟨t, _, _, _, h4⟩ := sh_spec s n
    exact ⟨h3.1, (by have := h3.2; simp only; omega), (by cases m <;> simp <;> omega), (by cases m <;> simp <;> omega), (by cases m <;> simp <;> omega)⟩
def val : List Int → Int
  | [] => 0
  | d :: l => d + 10 * val l
def Dig (l : List Int) : Prop := ∀ d, d ∈ l → 0 ≤ d ∧ d ≤ 9
theorem Dig.cons {d : Int} {l : List Int} : Dig (d :: l) ↔ (0 ≤ d ∧ d ≤ 9) ∧ Dig l :=
  ⟨fun h => ⟨h d (List.mem_cons_self), fun x hx => h x (List.mem_cons_of_mem _ hx)⟩, fun h x hx => by
    rcases List.mem_cons.1 hx with rfl | hx
    · exact h.1
    · exact h.2 x hx⟩
theorem Dig.nil : Dig [] := fun _ h => by cases h
theorem Dig.drop {l : List Int} (h : Dig l) (k : Nat) : Dig (l.drop k) := fun d hd => h d (List.mem_of_mem_drop hd)
theorem Dig.take {l : List Int} (h : Dig l) (k : Nat) : Dig (l.take k) := fun d hd => h d (List.mem_of_mem_take hd)
theorem Dig.replicate (n : Nat) : Dig (List.replicate n 0) := fun d hd => by
  have := (List.mem_replicate.1 hd).2; omega
theorem val_nonneg {l : List Int} (h : Dig l) : 0 ≤ val l := by
  induction l with
  | nil => exact Int.le_refl _
  | cons d l ih => have := ih (Dig.cons.1 h).2; have := (Dig.cons.1 h).1; simp only [val]; omega
theorem val_lt {l : List Int} (h : Dig l) : val l < 10 ^ l.length := by
  induction l with
  | nil => decide
  | cons d l ih =>
    have h1 := ih (Dig.cons.1 h).2; have h2 := (Dig.cons.1 h).1
    simp only [val, List.length_cons, Int.pow_succ]; omega
theorem val_append (l m : List Int) : val (l ++ m) = val l + 10 ^ l.length * val m := by
  induction l with
  | nil => simp [val]
  | cons d l ih =>
    simp only [List.cons_append, val, ih, List.length_cons, Int.pow_succ, Int.mul_add]
    rw [Int.mul_comm (10 ^ l.length) 10, Int.mul_assoc]; omega
theorem pow_pos (k : Nat) : (0 : Int) < 10 ^ k := Int.pow_pos (by decide)
end Go.Proofs.YtgkemhgihbfmmaaDoor.M
end
section
namespace Go.Proofs.YtgkemhgihbfmmaaDoor.PA
open Go.RowKit Go.Proofs.YtgkemhgihbfmmaaDoorW.PrintWords Go.Proofs.YtgkemhgihbfmmaaDoorW.PrintLast Go.Proofs.YtgkemhgihbfmmaaDoorW.PrintMore
open Go.Proofs.YtgkemhgihbfmmaaDoor.M
theorem w64 {x : Int} (h1 : -9223372036854775808 ≤ x) (h2 : x < 9223372036854775808) : wrap64 x = x := by unfold wrap64; omega
theorem wu64 {x : Int} (h1 : 0 ≤ x) (h2 : x < 18446744073709551616) : IntKind.u64.wrap x = x := by rw [IntKind.wrap_u64]; omega
theorem obs {α β : Type} (a : α) (f : α → Option β) : (some a).bind f = f a := by simp
theorem succ_of {k : Nat} (h : 0 < k) : ∃ m, k = m + 1 := ⟨k - 1, by omega⟩
theorem short_l0 (s : Nat) : ∀ (k : Nat) (n : Int), s < k → s ≤ 1000 → 0 ≤ n → n < 18446744073709551616 → deci_form_short.l0 k n s = some (sh s n) := by
  induction s with
  | zero =>
    intro k n hk _ _ _
    obtain ⟨k, rfl⟩ := succ_of (show 0 < k by omega)
    simp only [deci_form_short.l0]; rw [if_neg (by omega)]; rfl
  | succ s ih =>
    intro k n hk hs h0 h1
    obtain ⟨k, rfl⟩ := succ_of (show 0 < k by omega)
    simp only [deci_form_short.l0]
    rw [if_pos (by omega), Int.tmod_eq_emod_of_nonneg h0, Int.tdiv_eq_ediv_of_nonneg h0]
    by_cases h : n % 10 = 0
    · rw [if_pos h, wu64 (by omega) (by omega), w64 (by omega) (by omega), show ((s + 1 : Nat) : Int) - 1 = (s : Int) by omega, ih k (n / 10) (by omega) (by omega) (by omega) (by omega)]
      simp only [sh, h, if_true]
    · rw [if_neg h]; simp only [sh, h, if_false]; rfl
theorem dec_f {k : Nat} {n s : Int} {m : Bool} (hk : 8 ≤ k) (h0 : 0 ≤ n) (h1 : n < 18446744073709551616) (hs0 : 0 ≤ s) (hs : s ≤ 6) :
    deci_form_dec.f k n s m = some (decS n s.toNat m) := by
  obtain ⟨t, rfl⟩ := Int.eq_ofNat_of_zero_le hs0
  unfold deci_form_dec.f deci_form_short.f
  rw [short_l0 t k n (by omega) (by omega) h0 h1]
  simp only [Option.bind_some, Int.toNat_natCast]
  have hb := sh_nonneg t n h0
  unfold decS
  by_cases h : 999999999999 < (sh t n).1
  · rw [if_pos h, if_pos h]
  · rw [if_neg h, if_neg h, w64 (x := (sh t n).1) (by omega) (by omega), w64 (by omega) (by omega)]
    cases m <;> rfl
theorem mx_abs {n : Int} (h1 : -9223372036854775807 ≤ n) (h2 : n < 9223372036854775808) : IntKind.u64.wrap (mx n (wrap64 (-n))) = n.natAbs := by
  rw [w64 (by omega) (by omega)]; unfold mx
  split <;> (rw [wu64 (by omega) (by omega)]; omega)
theorem decS_mk (n s : Int) (h : ¬ (s < 0 ∨ 6 < s ∨ 999999999999 < n ∨ n < -999999999999)) : decS (n.natAbs : Int) s.toNat (decide (n < 0)) = mk n s := by
  unfold decS mk
  rw [if_neg h]
  have hb := sh_nonneg s.toNat (n.natAbs : Int) (by omega)
  rw [if_neg (by omega)]
  by_cases g : n < 0
  · have e : n = -((n.natAbs : Nat) : Int) := by omega
    simp only [g, decide_true, if_true]
    rw [e, sh_neg]; simp
  · have e : ((n.natAbs : Nat) : Int) = n := by omega
    simp only [g, decide_false, Bool.false_eq_true, if_false]
    rw [e]
theorem make_f {k : Nat} (hk : 10 ≤ k) (n s : Int) : deci_Make.f k n s = some (mk n s) := by
  have hj : ∀ b : Bool, b = decide (s < 0 ∨ 6 < s ∨ 999999999999 < n ∨ n < -999999999999) → deci_Make.j0 k n s b = some (mk n s) := by
    intro b hb
    obtain ⟨k, rfl⟩ := succ_of (show 0 < k by omega)
    simp only [deci_Make.j0]
    by_cases h : s < 0 ∨ 6 < s ∨ 999999999999 < n ∨ n < -999999999999
    · rw [if_pos (by rw [hb]; exact decide_eq_true h)]; unfold mk; rw [if_pos h]
    · rw [if_neg (by rw [hb, decide_eq_false h]; simp), mx_abs (by omega) (by omega), dec_f (by omega) (by omega) (by omega) (by omega) (by omega)]
      simp only [Option.bind_some]
      rw [decS_mk n s h]
  unfold deci_Make.f
  by_cases h1 : s < 0
  · rw [if_pos h1]; exact hj _ (decide_eq_true (by omega)).symm
  rw [if_neg h1]
  by_cases h2 : s > 6
  · rw [if_pos h2]; exact hj _ (decide_eq_true (by omega)).symm
  rw [if_neg h2]
  by_cases h3 : n > 999999999999
  · rw [if_pos h3]; exact hj _ (decide_eq_true (by omega)).symm
  rw [if_neg h3]
  exact hj _ (by rw [decide_eq_decide]; omega)
theorem sound_f {k : Nat} (hk : 10 ≤ k) (n s : Int) : deci_Sound.f k n s = some (decide (Snd n s)) := by
  unfold deci_Sound.f
  rw [make_f hk]; simp only [Option.bind_some]
  by_cases h : Snd n s
  · rw [mk_sound n s h]; simp [h]
  · have hu := mk_unsound n s h
    by_cases e : (mk n s).2.2 = 0
    · rw [if_pos e]; simp only [h, decide_false, Option.some.injEq, Bool.and_eq_false_iff, beq_eq_false_iff_ne]
      by_cases e1 : (mk n s).1 = n
      · right; intro e2; exact hu ⟨e, e1, e2⟩
      · left; exact e1
    · rw [if_neg e]; simp [h]
theorem all_one {k : Nat} (hk : 15 ≤ k) (n s : Int) : deci_all.f k [⟨n, s⟩] = some (if Snd n s then 0 else 2) := by
  obtain ⟨k, rfl⟩ : ∃ m, k = m + 2 := ⟨k - 2, by omega⟩
  unfold deci_all.f
  simp only [deci_all.l0, List.length_singleton]
  have e0 : rd_T23 [(⟨n, s⟩ : S23)] 0 = ⟨n, s⟩ := rfl
  rw [if_pos (by decide), if_pos (by decide), if_pos (by decide), e0, sound_f (by omega)]
  simp only [Option.bind_some, decide_eq_true_eq]
  by_cases h : Snd n s
  · rw [if_pos h, if_pos h, if_neg (by rw [w64 (by decide) (by decide)]; decide)]
  · rw [if_neg h, if_neg h]
theorem all_two {k : Nat} (hk : 15 ≤ k) (n s n' s' : Int) : deci_all.f k [⟨n, s⟩, ⟨n', s'⟩] = some (if Snd n s ∧ Snd n' s' then 0 else 2) := by
  obtain ⟨k, rfl⟩ : ∃ m, k = m + 3 := ⟨k - 3, by omega⟩
  have w1 : wrap64 (0 + 1) = 1 := w64 (by decide) (by decide)
  have w2 : wrap64 (1 + 1) = 2 := w64 (by decide) (by decide)
  unfold deci_all.f
  simp only [deci_all.l0, List.length_cons, List.length_nil, w1, w2]
  have e0 : rd_T23 [(⟨n, s⟩ : S23), ⟨n', s'⟩] 0 = ⟨n, s⟩ := rfl
  have e1 : rd_T23 [(⟨n, s⟩ : S23), ⟨n', s'⟩] 1 = ⟨n', s'⟩ := rfl
  rw [if_pos (by decide), if_pos (by decide), if_pos (by decide), e0, sound_f (by omega)]
  simp only [Option.bind_some, decide_eq_true_eq]
  by_cases h : Snd n s
  · rw [if_pos h, if_pos (by decide), if_pos (by decide), if_pos (by decide), e1, sound_f (by omega)]
    simp only [Option.bind_some, decide_eq_true_eq]
    by_cases h' : Snd n' s'
    · rw [if_pos h', if_neg (by decide)]; simp only [h, h', and_self, if_true]
    · rw [if_neg h']; simp only [h, h', and_false, if_false]
  · rw [if_neg h]; simp only [h, false_and, if_false]
theorem size_f {n s : Int} (h : Snd n s) : deci_size.f n s = some (n.natAbs : Int) := by
  obtain ⟨_, _, h1, h2, _⟩ := h
  unfold deci_size.f; rw [mx_abs (by omega) (by omega)]
theorem power_l0 (d : Nat) : ∀ (k i : Nat), d < k → i + d ≤ 18 → deci_power.l0 k (10 ^ i) ((i + d : Nat) : Int) (i : Int) = some (10 ^ (i + d)) := by
  have hp : ∀ j : Nat, j ≤ 18 → (10 : Int) ^ j ≤ 1000000000000000000 := fun j h => by
    have h1 : (10 : Int) ^ 18 = 10 ^ j * 10 ^ (18 - j) := by rw [← Int.pow_add]; congr 1; omega
    have h2 := pow_pos j; have h3 := pow_pos (18 - j)
    have h4 : 10 ^ j * 1 ≤ (10 : Int) ^ j * 10 ^ (18 - j) := Int.mul_le_mul_of_nonneg_left (by omega) (by omega)
    have h5 : (10 : Int) ^ 18 = 1000000000000000000 := by decide
    omega
  induction d with
  | zero =>
    intro k i hk hi
    obtain ⟨k, rfl⟩ := succ_of (show 0 < k by omega)
    simp only [deci_power.l0]; rw [if_neg (by omega)]; simp
  | succ d ih =>
    intro k i hk hi
    obtain ⟨k, rfl⟩ := succ_of (show 0 < k by omega)
    simp only [deci_power.l0]
    have h1 := hp (i + 1) (by omega); have h2 := pow_pos (i + 1)
    rw [if_pos (by omega), ← Int.pow_succ, wu64 (by omega) (by omega), w64 (by omega) (by omega)]
    have := ih k (i + 1) (by omega) (by omega)
    rw [show ((i + 1 : Nat) : Int) = (i : Int) + 1 by omega, show i + 1 + d = i + (d + 1) by omega] at this
    exact this
theorem power_f {k : Nat} (hk : 20 ≤ k) {n : Int} (h0 : 0 ≤ n) (h1 : n ≤ 18) : deci_power.f k n = some (10 ^ n.toNat) := by
  obtain ⟨t, rfl⟩ := Int.eq_ofNat_of_zero_le h0
  have := power_l0 t k 0 (by omega) (by omega)
  simp only [Nat.zero_add, Int.pow_zero] at this
  unfold deci_power.f; rw [Int.toNat_natCast]; exact this
end Go.Proofs.YtgkemhgihbfmmaaDoor.PA
end
section
namespace Go.Proofs.YtgkemhgihbfmmaaDoor.PA
open Go.RowKit Go.Proofs.YtgkemhgihbfmmaaDoorW.PrintWords Go.Proofs.YtgkemhgihbfmmaaDoorW.PrintLast Go.Proofs.YtgkemhgihbfmmaaDoorW.PrintMore
open Go.Proofs.YtgkemhgihbfmmaaDoor.M
structure Guess (Y a b U u q r : Int) : Prop where
  hY : Y = a * 4294967296 + b
  ha : 2147483648 ≤ a
  ha' : a < 4294967296
  hb : 0 ≤ b
  hb' : b < 4294967296
  hU : 0 ≤ U
  hU' : U < Y
  hu : 0 ≤ u
  hu' : u < 4294967296
  hq : q * a + r = U
  hr : 0 ≤ r
  hr' : r < 4294967296
  hge : (U * 4294967296 + u) / Y ≤ q
end Go.Proofs.YtgkemhgihbfmmaaDoor.PA
end
section
namespace Go.Proofs.YtgkemhgihbfmmaaDoor.PA
open Go.RowKit Go.Proofs.YtgkemhgihbfmmaaDoorW.PrintWords Go.Proofs.YtgkemhgihbfmmaaDoorW.PrintLast Go.Proofs.YtgkemhgihbfmmaaDoorW.PrintMore
open Go.Proofs.YtgkemhgihbfmmaaDoor.M
theorem pow_le {a b : Nat} (h : a ≤ b) : (10 : Int) ^ a ≤ 10 ^ b := by
  obtain ⟨c, rfl⟩ := Nat.exists_eq_add_of_le h
  rw [Int.pow_add]
  have h1 := pow_pos a; have h2 := pow_pos c
  have h3 : (10 : Int) ^ a * 1 ≤ 10 ^ a * 10 ^ c := Int.mul_le_mul_of_nonneg_left (by omega) (by omega)
  omega
theorem pow_6 {a : Nat} (h : a ≤ 6) : 1 ≤ (10 : Int) ^ a ∧ (10 : Int) ^ a ≤ 1000000 := by
  have h1 := pow_pos a; have h2 := pow_le h
  have e : (10 : Int) ^ 6 = 1000000 := by decide
  omega
def un (n s : Int) : Int := n * 10 ^ (6 - s).toNat
theorem mul_bound {n p N P : Int} (h1 : -N ≤ n) (h2 : n ≤ N) (h3 : 0 ≤ p) (h4 : p ≤ P) (hN : 0 ≤ N) : -(N * P) ≤ n * p ∧ n * p ≤ N * P := by
  have a1 : n * p ≤ N * p := Int.mul_le_mul_of_nonneg_right h2 h3
  have a2 : N * p ≤ N * P := Int.mul_le_mul_of_nonneg_left h4 hN
  have a3 : -N * p ≤ n * p := Int.mul_le_mul_of_nonneg_right h1 h3
  rw [Int.neg_mul] at a3; omega
theorem un_bound {n s : Int} (h : Snd n s) : -999999999999000000 ≤ un n s ∧ un n s ≤ 999999999999000000 := by
  obtain ⟨h0, h1, h2, h3, _⟩ := h
  have hp := pow_6 (a := (6 - s).toNat) (by omega)
  have := mul_bound (N := 999999999999) (P := 1000000) h2 h3 (by omega) hp.2 (by decide)
  unfold un; omega
theorem units_f {k : Nat} (hk : 40 ≤ k) {n s : Int} (h : Snd n s) : deci_units.f k n s = some (un n s) := by
  have hb := un_bound h
  obtain ⟨h0, h1, h2, h3, _⟩ := h
  have hp := pow_6 (a := (6 - s).toNat) (by omega)
  unfold deci_units.f
  rw [w64 (by omega) (by omega), power_f (by omega) (by omega) (by omega)]
  simp only [obs]
  rw [w64 (x := (10 : Int) ^ (6 - s).toNat) (by omega) (by omega)]
  rw [show n * 10 ^ (6 - s).toNat = un n s from rfl, w64 (by omega) (by omega)]
def addS (n s n' s' : Int) : Int × Int × Int :=
  if Snd n s ∧ Snd n' s' then decS ((un n s + un n' s').natAbs : Int) 6 (decide (un n s + un n' s' < 0)) else (0, 0, 2)
theorem add_ff {k : Nat} (hk : 40 ≤ k) (n s n' s' : Int) : deci_Add.f k n s n' s' = some (addS n s n' s') := by
  unfold deci_Add.f addS
  rw [all_two (by omega)]
  simp only [obs]
  by_cases h : Snd n s ∧ Snd n' s'
  · rw [if_pos h, if_pos rfl, if_pos h, units_f hk h.1, units_f hk h.2]
    have h1 := un_bound h.1; have h2 := un_bound h.2
    simp only [obs]
    rw [w64 (x := un n s + un n' s') (by omega) (by omega), mx_abs (by omega) (by omega), dec_f (by omega) (by omega) (by omega) (by decide) (by decide), show (6 : Int).toNat = 6 from rfl]; simp only [obs, Prod.eta]
  · rw [if_neg h, if_neg (by decide), if_neg h]
theorem neg_ff {k : Nat} (hk : 40 ≤ k) (n s : Int) : deci_Neg.f k n s = some (if Snd n s then (-n, s, 0) else (0, 0, 2)) := by
  unfold deci_Neg.f
  rw [all_one (by omega)]
  simp only [obs]
  by_cases h : Snd n s
  · rw [if_pos h, if_pos rfl, if_pos h, w64 (by have := h.2.2.2.1; omega) (by have := h.2.2.1; omega)]
  · rw [if_neg h, if_neg (by decide), if_neg h]
end Go.Proofs.YtgkemhgihbfmmaaDoor.PA
end
section
namespace Go.Proofs.YtgkemhgihbfmmaaDoor.PA
open Go.RowKit Go.Proofs.YtgkemhgihbfmmaaDoorW.PrintWords Go.Proofs.YtgkemhgihbfmmaaDoorW.PrintLast Go.Proofs.YtgkemhgihbfmmaaDoorW.PrintMore
open Go.Proofs.YtgkemhgihbfmmaaDoor.M
theorem bytes_inj {a b : ByteArray} (h : a.data.toList = b.data.toList) : a = b := by
  cases a; cases b; simp only [ByteArray.mk.injEq]; exact Array.toList_inj.1 h
def by' (l : List UInt8) : ByteArray := ⟨l.toArray⟩
theorem by_size (l : List UInt8) : (by' l).size = l.length := by simp [by', ByteArray.size]
theorem by_app (a b : List UInt8) : by' a ++ by' b = by' (a ++ b) := by
  apply bytes_inj; simp [by']
theorem by_ext (l : List UInt8) (i j : Nat) : (by' l).extract i j = by' ((l.take j).drop i) := by
  apply bytes_inj; simp [by', List.drop_take]
def dgt (n : Int) : UInt8 := UInt8.ofNat (48 + (n % 10).toNat)
def lowd : Nat → Int → List UInt8
  | 0, _ => []
  | s + 1, n => lowd s (n / 10) ++ [dgt n]
theorem lowd_length (s : Nat) : ∀ n, (lowd s n).length = s := by
  induction s with
  | zero => intro n; rfl
  | succ s ih => intro n; simp [lowd, ih]
def num (n : Int) : List UInt8 := Lib.decDigits n.toNat
theorem num_small {n : Int} (h : 0 ≤ n) (h' : n < 10) : num n = [dgt n] := by
  unfold num dgt; rw [Lib.decDigits_one (by omega), show (n % 10).toNat = n.toNat by omega]
theorem num_big {n : Int} (h : 10 ≤ n) : num n = num (n / 10) ++ [dgt n] := by
  unfold num dgt; rw [Lib.decDigits, dif_neg (by omega), show n.toNat / 10 = (n / 10).toNat by omega, show (n % 10).toNat = n.toNat % 10 by omega]
theorem num_length_pos (n : Int) : 1 ≤ (num n).length := by
  unfold num; rw [Lib.decDigits_length]; exact Lib.nDigits_pos _
theorem repeat_one (c : UInt8) (k : Nat) : Lib.repeatL [c] k = List.replicate k c := by
  induction k with
  | zero => rfl
  | succ k ih => rw [Lib.repeatL, ih]; rfl
theorem num_len_small {n : Int} (h : 0 ≤ n) (h' : n < 10) : (num n).length = 1 := by rw [num_small h h']; rfl
theorem num_len_big {n : Int} (h : 10 ≤ n) : (num n).length = (num (n / 10)).length + 1 := by rw [num_big h]; simp
theorem pad_num (s : Nat) : ∀ n : Int, 0 ≤ n → List.replicate (s + 1 - (num n).length) (48 : UInt8) ++ num n = num (n / 10 ^ s) ++ lowd s n := by
  induction s with
  | zero =>
    intro n h
    have := num_length_pos n
    rw [show 0 + 1 - (num n).length = 0 by omega]; simp [lowd]
  | succ s ih =>
    intro n h
    have hq : n / 10 ^ (s + 1) = n / 10 / 10 ^ s := by rw [Int.ediv_ediv_of_nonneg (by decide), Int.pow_succ, Int.mul_comm 10]
    rw [lowd, ← List.append_assoc, hq, ← ih (n / 10) (by omega), List.append_assoc]
    by_cases h' : n < 10
    · rw [num_len_small h h', num_small h h', show n / 10 = 0 by omega, num_len_small (n := 0) (by omega) (by omega), num_small (n := 0) (by omega) (by omega)]
      rw [show s + 1 + 1 - 1 = s + 1 by omega, show s + 1 - 1 = s by omega, List.replicate_succ', List.append_assoc]; rfl
    · rw [num_len_big (by omega), num_big (n := n) (by omega), show s + 1 + 1 - ((num (n / 10)).length + 1) = s + 1 - (num (n / 10)).length by omega]
theorem num_len_le (c : Nat) : ∀ n : Int, 0 ≤ n → n < 10 ^ (c + 1) → (num n).length ≤ c + 1 := by
  induction c with
  | zero => intro n h h'; rw [num_len_small h (by omega)]; omega
  | succ c ih =>
    intro n h h'
    by_cases g : n < 10
    · rw [num_len_small h g]; omega
    · rw [num_len_big (by omega)]
      have := ih (n / 10) (by omega) (by rw [Int.pow_succ] at h'; omega)
      omega
def txt (n s : Int) : List UInt8 :=
  (if n < 0 then [45] else []) ++ (num ((n.natAbs : Int) / 10 ^ s.toNat) ++ (if 0 < s then 46 :: lowd s.toNat (n.natAbs : Int) else []))
theorem text_j0 {k : Nat} (hk : 0 < k) (l : List UInt8) (hl : l.length < 1000) (n s : Int) : deci_Text.j0 k (by' l) n s = some (by' ((if n < 0 then [45] else []) ++ l), 0) := by
  obtain ⟨m, rfl⟩ := succ_of hk
  rw [deci_Text.j0, by_size]
  by_cases h : n < 0
  · rw [if_pos h, if_pos (by omega), if_pos h, show (⟨#[45]⟩ : ByteArray) = by' [45] from rfl, by_app]
  · rw [if_neg h, if_neg h]; rfl
theorem text_ff {k : Nat} (hk : 15 ≤ k) (n s : Int) : deci_Text.f k n s = some (if Snd n s then (by' (txt n s), 0) else (by' [], 2)) := by
  unfold deci_Text.f
  rw [all_one hk]
  simp only [obs]
  by_cases hS : Snd n s
  · rw [if_pos hS, if_pos rfl, if_pos hS, size_f hS]
    simp only [obs]
    obtain ⟨h0, h1, h2, h3, _⟩ := hS
    have hA : (n.natAbs : Int) < 10 ^ (11 + 1) := by omega
    have hlen := num_len_le 11 (n.natAbs : Int) (by omega) hA
    have hf : strconv_FormatUint.f (n.natAbs : Int) 10 = some (by' (num (n.natAbs : Int))) := by
      unfold strconv_FormatUint.f; rw [if_pos ⟨rfl, by omega, by omega⟩]; rfl
    rw [hf]
    simp only [obs]
    unfold txt
    by_cases hs : 0 < s
    · rw [if_pos (by omega), if_pos hs]
      obtain ⟨t, rfl⟩ := Int.eq_ofNat_of_zero_le h0
      have hp := pad_num t (n.natAbs : Int) (by omega)
      have hpos := num_length_pos (n.natAbs : Int)
      have hmx : mx 0 (wrap64 ((wrap64 ((t : Int) + 1)) - ((by' (num (n.natAbs : Int))).size : Int))) = ((t + 1 - (num (n.natAbs : Int)).length : Nat) : Int) := by
        rw [by_size, w64 (x := (t : Int) + 1) (by omega) (by omega), w64 (by omega) (by omega)]; unfold mx; split <;> omega
      rw [hmx]
      have hr : strings_Repeat.f (⟨#[48]⟩ : ByteArray) ((t + 1 - (num (n.natAbs : Int)).length : Nat) : Int) = some (by' (List.replicate (t + 1 - (num (n.natAbs : Int)).length) 48)) := by
        unfold strings_Repeat.f
        rw [if_pos ⟨by omega, by omega, by decide⟩, show (⟨#[48]⟩ : ByteArray).data.toList = [48] from rfl, repeat_one]; rfl
      rw [hr]
      simp only [obs, by_app, hp]
      have hL : (num ((n.natAbs : Int) / 10 ^ t) ++ lowd t (n.natAbs : Int)).length = (num ((n.natAbs : Int) / 10 ^ t)).length + t := by rw [List.length_append, lowd_length]
      have hq : (num ((n.natAbs : Int) / 10 ^ t)).length ≤ 11 + 1 := num_len_le 11 _ (Int.ediv_nonneg (by omega) (by have := M.pow_pos t; omega)) (by
        have := Int.ediv_le_self (10 ^ t) (show (0 : Int) ≤ (n.natAbs : Int) by omega); omega)
      have hcut : wrap64 (((by' (num ((n.natAbs : Int) / 10 ^ t) ++ lowd t (n.natAbs : Int))).size : Int) - (t : Int)) = ((num ((n.natAbs : Int) / 10 ^ t)).length : Int) := by
        rw [by_size, hL, w64 (by omega) (by omega)]; omega
      rw [if_pos (by rw [by_size, by_size, List.length_replicate]; omega)]
      simp only [hcut, Int.toNat_natCast]
      rw [if_pos (by omega), if_pos (by rw [by_size, hL]; omega)]
      have e1 : (by' (num ((n.natAbs : Int) / 10 ^ t) ++ lowd t (n.natAbs : Int))).extract 0 (num ((n.natAbs : Int) / 10 ^ t)).length = by' (num ((n.natAbs : Int) / 10 ^ t)) := by
        rw [by_ext]; simp
      have e2 : (by' (num ((n.natAbs : Int) / 10 ^ t) ++ lowd t (n.natAbs : Int))).extract (num ((n.natAbs : Int) / 10 ^ t)).length (by' (num ((n.natAbs : Int) / 10 ^ t) ++ lowd t (n.natAbs : Int))).size = by' (lowd t (n.natAbs : Int)) := by
        rw [by_ext, by_size, List.take_length, List.drop_left]
      simp only [e1, e2]
      rw [show (⟨#[46]⟩ : ByteArray) = by' [46] from rfl]
      simp only [by_app]
      rw [if_pos (by rw [by_size]; omega), if_pos (by rw [by_size, by_size, lowd_length, List.length_append]; simp only [List.length_cons, List.length_nil]; omega)]
      rw [text_j0 (by omega) _ (by simp only [List.length_append, lowd_length, List.length_cons, List.length_nil]; omega)]
      simp
    · rw [if_neg (by omega), if_neg hs, text_j0 (by omega) _ (by omega), show s = 0 by omega]
      simp
  · rw [if_neg hS, if_neg (by decide), if_neg hS]; rfl
end Go.Proofs.YtgkemhgihbfmmaaDoor.PA
end
section
namespace Go.Proofs.YtgkemhgihbfmmaaDoor.PA
open Go.RowKit Go.Proofs.YtgkemhgihbfmmaaDoorW.PrintWords Go.Proofs.YtgkemhgihbfmmaaDoorW.PrintLast Go.Proofs.YtgkemhgihbfmmaaDoorW.PrintMore
open Go.Proofs.YtgkemhgihbfmmaaDoor.M
def isd (c : UInt8) : Bool := decide (48 ≤ c.toNat ∧ c.toNat ≤ 57)
def dg (c : UInt8) : Int := (c.toNat : Int) - 48
theorem isd_iff {c : UInt8} : isd c = true ↔ 48 ≤ c.toNat ∧ c.toNat ≤ 57 := by simp [isd]
def value (l : List UInt8) : Int := val (l.map dg).reverse
theorem value_cons (c : UInt8) (t : List UInt8) : value (c :: t) = value t + 10 ^ t.length * dg c := by
  unfold value; rw [List.map_cons, List.reverse_cons, val_append, List.length_reverse, List.length_map]; simp [val]
theorem dig_rev {l : List UInt8} (h : l.all isd = true) : Dig (l.map dg).reverse := fun d hd => by
  rw [List.mem_reverse, List.mem_map] at hd
  obtain ⟨c, hc, rfl⟩ := hd
  have := isd_iff.1 (List.all_eq_true.1 h c hc)
  unfold dg; omega
theorem value_bound {l : List UInt8} (h : l.all isd = true) : 0 ≤ value l ∧ value l < 10 ^ l.length := by
  have := val_lt (dig_rev h); rw [List.length_reverse, List.length_map] at this
  exact ⟨val_nonneg (dig_rev h), this⟩
def splt : List UInt8 → List UInt8 × Option (List UInt8)
  | [] => ([], none)
  | c :: t => if c = 46 then ([], some t) else (c :: (splt t).1, (splt t).2)
theorem cut_splt (r : List UInt8) : Lib.cut r [46] = ((splt r).1, (splt r).2.getD [], (splt r).2.isSome) := by
  induction r with
  | nil => rfl
  | cons c t ih =>
    unfold Lib.cut at ih ⊢
    rw [Lib.index_one] at ih ⊢
    rw [Lib.indexByte, splt]
    by_cases h : c = 46
    · subst h; simp
    · rw [if_neg h, show (c == 46) = false by simpa using h]
      simp only [Bool.false_eq_true, if_false]
      have hge : Lib.indexByte t 46 = -1 ∨ 0 ≤ Lib.indexByte t 46 := by
        rw [← Lib.index_one]
        rcases Lib.index_spec t [46] with ⟨e, _⟩ | ⟨i, e, _⟩
        · exact Or.inl e
        · rw [e]; exact Or.inr (by omega)
      rcases hge with g | g
      · rw [g] at ih ⊢
        rw [if_neg (by decide)] at ih
        obtain ⟨e1, e2⟩ := Prod.mk.inj ih
        obtain ⟨e2, e3⟩ := Prod.mk.inj e2
        simp only [beq_self_eq_true, if_true]
        rw [if_neg (by decide), ← e1, ← e2, ← e3]
      · rw [if_pos g] at ih
        obtain ⟨e1, e2⟩ := Prod.mk.inj ih
        obtain ⟨e2, e3⟩ := Prod.mk.inj e2
        have hne : (Lib.indexByte t 46 == -1) = false := by rw [beq_eq_false_iff_ne]; omega
        rw [hne]
        simp only [Bool.false_eq_true, if_false]
        rw [if_pos (by omega), ← e1, ← e2, ← e3, show (Lib.indexByte t 46 + 1).toNat = (Lib.indexByte t 46).toNat + 1 by omega]
        simp only [List.take_succ_cons, List.length_singleton, List.drop_succ_cons]
theorem splt_back (r : List UInt8) : (splt r).1 ++ (match (splt r).2 with | none => [] | some p => 46 :: p) = r := by
  induction r with
  | nil => rfl
  | cons c t ih =>
    rw [splt]
    by_cases h : c = 46
    · rw [if_pos h, h]; rfl
    · rw [if_neg h]; simp only [List.cons_append, ih]
def parse2 (m : Bool) (w p : List UInt8) : Int × Int × Int :=
  if w = [] ∨ (1 < w.length ∧ w.head? = some 48) then (0, 0, 5)
  else if 6 < (Lib.trimRightS p [48]).length ∨ 12 < w.length then (0, 0, 3)
  else decS (value (w ++ Lib.trimRightS p [48])) (Lib.trimRightS p [48]).length m
def sel (m : Bool) (w : List UInt8) (o : Option (List UInt8)) : Int × Int × Int :=
  if w.all isd = true ∧ o ≠ some [] ∧ (o.getD []).all isd = true then parse2 m w (o.getD []) else (0, 0, 5)
def parseS (m : Bool) (r : List UInt8) : Int × Int × Int := sel m (splt r).1 (splt r).2
def parseF (l : List UInt8) : Int × Int × Int :=
  match l with
  | 45 :: t => parseS true t
  | _ => parseS false l
theorem parseF_other {c : UInt8} {t : List UInt8} (h : c ≠ 45) : parseF (c :: t) = parseS false (c :: t) := by
  unfold parseF
  split
  · rename_i e; exact absurd (List.cons.inj e).1 h
  · rfl
theorem parseM_digits (M : Nat) (hM : M = 18446744073709551615) : ∀ (l : List UInt8) (acc : Nat), l.all isd = true → acc * 10 ^ l.length + 10 ^ l.length ≤ 1000000000000000000 →
    Lib.parseUintM M acc l = .ok (acc * 10 ^ l.length + (value l).toNat) := by
  intro l
  induction l with
  | nil => intro acc _ _; simp [Lib.parseUintM, value, val]
  | cons c t ih =>
    intro acc h hb
    rw [List.all_cons, Bool.and_eq_true] at h
    have hc := isd_iff.1 h.1
    have hp : 1 ≤ 10 ^ t.length := Nat.pos_of_ne_zero (by simp)
    rw [List.length_cons, Nat.pow_succ] at hb
    have h1 : acc * 10 * 10 ^ t.length + 10 * 10 ^ t.length ≤ 1000000000000000000 := by
      rw [Nat.mul_assoc, Nat.mul_comm 10]; exact hb
    have h2 : (acc * 10 + 10) * 10 ^ t.length ≤ 1000000000000000000 := by rw [Nat.add_mul]; exact h1
    have h3 : acc * 10 + 10 ≤ 1000000000000000000 := Nat.le_trans (Nat.le_mul_of_pos_right _ hp) h2
    rw [Lib.parseUintM, if_pos hc, if_neg (by omega), if_neg (by omega), ih _ h.2 (by
      have : (acc * 10 + (c.toNat - 48) + 1) * 10 ^ t.length ≤ (acc * 10 + 10) * 10 ^ t.length := Nat.mul_le_mul_right _ (by omega)
      rw [Nat.add_mul, Nat.one_mul] at this
      omega)]
    rw [value_cons]
    have hv := value_bound h.2
    have e : (value t + 10 ^ t.length * dg c).toNat = (value t).toNat + 10 ^ t.length * (c.toNat - 48) := by
      have : (10 : Int) ^ t.length * dg c = ((10 ^ t.length * (c.toNat - 48) : Nat) : Int) := by
        rw [Int.natCast_mul, Int.natCast_pow]; unfold dg; rw [show ((c.toNat - 48 : Nat) : Int) = (c.toNat : Int) - 48 by omega]; rfl
      rw [this]; omega
    rw [e, List.length_cons, Nat.pow_succ, Nat.add_mul, Nat.mul_assoc acc 10, Nat.mul_comm 10 (10 ^ t.length), Nat.mul_comm (c.toNat - 48)]
    congr 1; omega
theorem uint_digits {l : List UInt8} (h : l.all isd = true) (h0 : l ≠ []) (hl : l.length ≤ 18) : strconv_ParseUint.f (by' l) 10 64 = some (value l, none) := by
  have hv := value_bound h
  have hp : 10 ^ l.length ≤ 10 ^ 18 := Nat.pow_le_pow_right (by decide) hl
  unfold strconv_ParseUint.f
  rw [if_pos ⟨rfl, rfl, by rw [by_size]; omega⟩, show (by' l).data.toList = l by simp [by'], Lib.parseUintB, if_neg h0, parseM_digits _ rfl l 0 h (by rw [Nat.zero_mul, Nat.zero_add]; exact hp)]
  rw [Nat.zero_mul, Nat.zero_add]
  show some (((value l).toNat : Int), none) = _
  rw [Int.toNat_of_nonneg hv.1]
theorem by_data (l : List UInt8) : (by' l).data.toList = l := by simp [by']
theorem by_toList (l : List UInt8) : (by' l).toList = l := by rw [ByteArray.toList_eq]; exact by_data l
theorem bt_by (l : List UInt8) (i : Nat) : bt (by' l) (i : Int) = ((l[i]?.getD 0).toNat : Int) := by
  unfold bt
  rw [Int.toNat_natCast]
  by_cases h : i < l.length
  · rw [dif_pos (by rw [by_size]; exact h), List.getElem?_eq_getElem h]; rfl
  · rw [dif_neg (by rw [by_size]; exact h), List.getElem?_eq_none (by omega)]; rfl
def ten : List UInt8 := [48, 49, 50, 51, 52, 53, 54, 55, 56, 57]
theorem ten_isd (c : UInt8) : ten.contains c = isd c := by
  obtain ⟨⟨n⟩⟩ := c
  revert n; decide +kernel
theorem dw_nil (q : UInt8 → Bool) : ∀ l : List UInt8, l.dropWhile q = [] ↔ ∀ c ∈ l, q c = true
  | [] => by simp
  | a :: l => by
    rw [List.dropWhile_cons]
    by_cases h : q a = true
    · rw [if_pos h, dw_nil q l]; simp [h]
    · rw [if_neg h]; simp [h]
theorem tw_mem (q : UInt8 → Bool) : ∀ (l : List UInt8) (c : UInt8), c ∈ l.takeWhile q → q c = true
  | [], c, h => by simp at h
  | a :: l, c, h => by
    rw [List.takeWhile_cons] at h
    by_cases g : q a = true
    · rw [if_pos g] at h
      rcases List.mem_cons.1 h with rfl | h
      · exact g
      · exact tw_mem q l c h
    · rw [if_neg g] at h; simp at h
theorem trim_nil (l cs : List UInt8) : Lib.trimS l cs = [] ↔ l.all (fun c => cs.contains c) = true := by
  unfold Lib.trimS Lib.trimLeftS Lib.trimRightS
  constructor
  · intro h
    rw [dw_nil] at h
    rw [List.all_eq_true]
    intro c hc
    by_cases g : cs.contains c = true
    · exact g
    · exfalso
      apply g
      apply h
      rw [List.mem_reverse]
      have hsp := List.takeWhile_append_dropWhile (p := (cs.contains ·)) (l := l.reverse)
      have hm : c ∈ l.reverse := List.mem_reverse.2 hc
      rw [← hsp, List.mem_append] at hm
      rcases hm with hm | hm
      · exact absurd (tw_mem _ _ _ hm) g
      · exact hm
  · intro h
    have : l.reverse.dropWhile (cs.contains ·) = [] := by
      rw [dw_nil]
      intro c hc
      exact List.all_eq_true.1 h c (List.mem_reverse.1 hc)
    rw [this]; rfl
theorem digits_ff {l : List UInt8} (h : l.length ≤ 9223372036854775807) : deci_digits.f (by' l) = some (decide (l ≠ [] ∧ l.all isd = true)) := by
  unfold deci_digits.f
  rw [by_toList]
  by_cases h0 : l = []
  · rw [if_pos h0, h0]; rfl
  · rw [if_neg h0]
    have : strings_Trim.f (by' l) (⟨#[48, 49, 50, 51, 52, 53, 54, 55, 56, 57]⟩ : ByteArray) = some (by' (Lib.trimS l ten)) := by
      unfold strings_Trim.f
      rw [if_pos ⟨by rw [by_size]; exact h, by decide, by decide⟩, by_data]; rfl
    rw [this]
    simp only [obs, by_toList]
    have e : (l.all fun c => ten.contains c) = l.all isd := by congr 1; funext c; exact ten_isd c
    have := trim_nil l ten
    rw [e] at this
    by_cases g : l.all isd = true
    · rw [this.2 g, g]; simp [h0]
    · rw [beq_eq_false_iff_ne.2 (fun q => g (this.1 q))]; simp [g]
theorem trimR_all {p : List UInt8} (h : p.all isd = true) : (Lib.trimRightS p [48]).all isd = true := by
  rw [List.all_eq_true] at h ⊢
  intro c hc
  apply h
  unfold Lib.trimRightS at hc
  rw [List.mem_reverse] at hc
  exact List.mem_reverse.1 ((List.dropWhile_suffix (p := fun x => [48].contains x) (l := p.reverse)).subset hc)
theorem trimright_f {l : List UInt8} (h : l.length ≤ 9223372036854775807) : strings_TrimRight.f (by' l) (⟨#[48]⟩ : ByteArray) = some (by' (Lib.trimRightS l [48])) := by
  unfold strings_TrimRight.f
  rw [if_pos ⟨by rw [by_size]; exact h, by decide, by decide⟩, by_data]; rfl
theorem prefix_f {l : List UInt8} : strings_CutPrefix.f (by' l) (⟨#[45]⟩ : ByteArray) = some (match l with | 45 :: t => (by' t, true) | _ => (by' l, false)) := by
  unfold strings_CutPrefix.f stringslite_CutPrefix.f stringslite_HasPrefix.f
  rw [show (⟨#[45]⟩ : ByteArray) = by' [45] from rfl]
  simp only [by_size, by_ext, by_toList, List.length_singleton]
  match l with
  | [] => rfl
  | c :: t =>
    rw [if_pos (by simp only [List.length_cons]; omega), if_pos (by omega), if_pos (by simp only [List.length_cons]; omega)]
    simp only [obs]
    by_cases h : c = 45
    · subst h
      rw [if_pos (by simp), if_pos (by omega), if_pos (by simp only [List.length_cons]; omega)]
      simp
    · rw [if_neg (by simpa using h)]
      simp only [obs]
      rw [show (match c :: t with | 45 :: t => (by' t, true) | _ => (by' (c :: t), false)) = (by' (c :: t), false) from by
        split
        · rename_i e; exact absurd (List.cons.inj e).1 h
        · rfl]
theorem parse_j1 {k : Nat} (hk : 12 ≤ k) {m : Bool} {w q : List UInt8} (hw : w.all isd = true) (hq : q.all isd = true) (hw0 : w ≠ []) :
    deci_Parse.j1 k m (by' w) (by' q) (decide (6 < q.length ∨ 12 < w.length)) = some (if 6 < q.length ∨ 12 < w.length then (0, 0, 3) else decS (value (w ++ q)) q.length m) := by
  obtain ⟨k, rfl⟩ := succ_of (by omega : 0 < k)
  rw [deci_Parse.j1]
  by_cases h : 6 < q.length ∨ 12 < w.length
  · rw [if_pos (by simpa using h), if_pos h]
  · rw [if_neg (by simpa using h), if_neg h, if_pos (by rw [by_size, by_size]; omega), by_app]
    have hall : (w ++ q).all isd = true := by rw [List.all_append, hw, hq]; rfl
    rw [uint_digits hall (by simp [hw0]) (by rw [List.length_append]; omega)]
    simp only [obs]
    have hv := value_bound hall
    have hp : (10 : Int) ^ (w ++ q).length ≤ 10 ^ 18 := by
      have : (10 : Nat) ^ (w ++ q).length ≤ 10 ^ 18 := Nat.pow_le_pow_right (by decide) (by rw [List.length_append]; omega)
      exact_mod_cast this
    rw [by_size, dec_f (by omega) hv.1 (by omega) (by omega) (by omega)]
    simp only [obs, Int.toNat_natCast]
theorem parse_j0 {k : Nat} (hk : 13 ≤ k) {m : Bool} {w p : List UInt8} (hw : w.all isd = true) (hp : p.all isd = true) (hw0 : w ≠ []) (hl : p.length ≤ 9223372036854775807) :
    deci_Parse.j0 k m (by' w) (by' p) (decide (1 < w.length ∧ w.head? = some 48)) = some (parse2 m w p) := by
  obtain ⟨k, rfl⟩ := succ_of (by omega : 0 < k)
  rw [deci_Parse.j0]
  unfold parse2
  by_cases h : 1 < w.length ∧ w.head? = some 48
  · rw [if_pos (by simpa using h), if_pos (Or.inr h)]
  · rw [if_neg (by simpa using h), if_neg (fun g => g.elim hw0 h), trimright_f hl]
    simp only [obs]
    rw [← parse_j1 (k := k) (m := m) (by omega) hw (trimR_all hp) hw0]
    by_cases g : 6 < (Lib.trimRightS p [48]).length
    · rw [if_pos (by rw [by_size]; omega), decide_eq_true (Or.inl g)]
    · rw [if_neg (by rw [by_size]; omega), by_size]
      congr 1
      rw [decide_eq_decide]; omega
theorem parse_ff {k : Nat} (hk : 14 ≤ k) (l : List UInt8) (hl : l.length ≤ 9223372036854775806) :
    deci_Parse.f k (by' l) = some (parseF l) := by
  unfold deci_Parse.f
  rw [prefix_f]
  simp only [obs]
  have main : ∀ (m : Bool) (r : List UInt8), r.length ≤ 9223372036854775806 → ((strings_Cut.f (by' r) (⟨#[46]⟩ : ByteArray)).bind fun bt157 => ((deci_digits.f bt157.1).bind fun t160 => (if t160 = true then (if bt157.2.2 = true then ((deci_digits.f bt157.2.1).bind fun t161 => (if t161 = true then (if (bt157.1.size : Int) > 1 then (if 0 < (bt157.1.size : Int) then (deci_Parse.j0 k m bt157.1 bt157.2.1 ((bt bt157.1 0) == 48)) else (none)) else (deci_Parse.j0 k m bt157.1 bt157.2.1 false)) else (deci_Parse.j0 k m bt157.1 bt157.2.1 true))) else (if (bt157.1.size : Int) > 1 then (if 0 < (bt157.1.size : Int) then (deci_Parse.j0 k m bt157.1 bt157.2.1 ((bt bt157.1 0) == 48)) else (none)) else (deci_Parse.j0 k m bt157.1 bt157.2.1 false))) else (deci_Parse.j0 k m bt157.1 bt157.2.1 true)))) = some (parseS m r) := by
    intro m r hr
    have hc : strings_Cut.f (by' r) (⟨#[46]⟩ : ByteArray) = some (by' (splt r).1, by' ((splt r).2.getD []), (splt r).2.isSome) := by
      unfold strings_Cut.f
      rw [if_pos ⟨rfl, by rw [by_size]; exact hr⟩, by_data, show (⟨#[46]⟩ : ByteArray).data.toList = [46] from rfl, cut_splt]; rfl
    rw [hc]
    simp only [obs]
    have hb := splt_back r
    unfold parseS sel
    generalize (splt r).1 = w at hb ⊢
    generalize hp : (splt r).2 = o at hb ⊢
    have hlw : w.length ≤ r.length := by rw [← hb, List.length_append]; omega
    have bad : deci_Parse.j0 k m (by' w) (by' (o.getD [])) true = some (0, 0, 5) := by
      obtain ⟨j, rfl⟩ := succ_of (by omega : 0 < k)
      rw [deci_Parse.j0, if_pos rfl]
    have good : ∀ p : List UInt8, p.length ≤ 9223372036854775807 → w ≠ [] → w.all isd = true → p.all isd = true → (if (((by' w).size : Nat) : Int) > 1 then (if 0 < (((by' w).size : Nat) : Int) then (deci_Parse.j0 k m (by' w) (by' p) ((bt (by' w) 0) == 48)) else (none)) else (deci_Parse.j0 k m (by' w) (by' p) false)) = some (parse2 m w p) := by
      intro p hl h0 hw hpd
      have hj := parse_j0 (k := k) (m := m) (by omega) hw hpd h0 hl
      rw [by_size]
      by_cases g : 1 < w.length
      · rw [if_pos (by omega), if_pos (by omega), ← hj, show (0 : Int) = ((0 : Nat) : Int) from rfl, bt_by]
        congr 1
        obtain ⟨c, t, rfl⟩ := List.exists_cons_of_ne_nil h0
        simp only [g, true_and, List.head?_cons, Option.some.injEq, List.getElem?_cons_zero, Option.getD_some]
        rw [Bool.eq_iff_iff, beq_iff_eq, decide_eq_true_iff]
        constructor
        · intro e; exact UInt8.toNat_inj.1 (by simpa using (by omega : c.toNat = 48))
        · intro e; rw [e]; rfl
      · rw [if_neg (by omega), ← hj, decide_eq_false (fun q => g q.1)]
    rw [digits_ff (by omega)]
    simp only [obs]
    by_cases h1 : w ≠ [] ∧ w.all isd = true
    · rw [if_pos (by simpa using h1)]
      cases o with
      | none =>
        rw [if_neg (by simp)]
        refine (good [] (by simp) h1.1 h1.2 rfl).trans ?_
        rw [if_pos ⟨h1.2, by simp, rfl⟩]; rfl
      | some p =>
        have hlp : p.length ≤ r.length := by rw [← hb, List.length_append, List.length_cons]; omega
        rw [if_pos (by simp)]
        simp only [Option.getD_some]
        rw [digits_ff (by omega)]
        simp only [obs]
        by_cases h2 : p ≠ [] ∧ p.all isd = true
        · rw [if_pos (by simpa using h2)]
          refine (good p (by omega) h1.1 h1.2 h2.2).trans ?_
          rw [if_pos ⟨h1.2, by simpa using h2.1, h2.2⟩]
        · rw [if_neg (by simpa using h2)]
          refine bad.trans ?_
          rw [if_neg (fun q => h2 ⟨by simpa using q.2.1, q.2.2⟩)]
    · rw [if_neg (by simpa using h1), bad]
      by_cases h2 : w = []
      · by_cases h3 : w.all isd = true ∧ o ≠ some [] ∧ (o.getD []).all isd = true
        · rw [if_pos h3]; unfold parse2; rw [if_pos (Or.inl h2)]
        · rw [if_neg h3]
      · rw [if_neg (fun q => h1 ⟨h2, q.1⟩)]
  match l with
  | [] => exact main false [] (by simp)
  | c :: t =>
    by_cases h : c = 45
    · subst h; exact main true t (by simp only [List.length_cons] at hl; omega)
    · have e1 : (match c :: t with | 45 :: t => (by' t, true) | _ => (by' (c :: t), false)) = (by' (c :: t), false) := by
        split
        · rename_i e; exact absurd (List.cons.inj e).1 h
        · rfl
      rw [e1, parseF_other h]; exact main false (c :: t) hl
theorem trimR_snoc (p : List UInt8) (c : UInt8) : Lib.trimRightS (p ++ [c]) [48] = if c = 48 then Lib.trimRightS p [48] else p ++ [c] := by
  unfold Lib.trimRightS
  rw [List.reverse_append, List.reverse_singleton, List.singleton_append, List.dropWhile_cons]
  by_cases h : c = 48
  · rw [if_pos (by simp [h]), if_pos h]
  · rw [if_neg (by simp [h]), if_neg h]; simp
end Go.Proofs.YtgkemhgihbfmmaaDoor.PA
end
section
namespace Go.Proofs.YtgkemhgihbfmmaaDoor.PA
open Go.RowKit Go.Proofs.YtgkemhgihbfmmaaDoorW.PrintWords Go.Proofs.YtgkemhgihbfmmaaDoorW.PrintLast Go.Proofs.YtgkemhgihbfmmaaDoorW.PrintMore
open Go.Proofs.YtgkemhgihbfmmaaDoor.M
theorem awake_back : soffitlaw01_awake.f 500 = some true := by decide +kernel
theorem awake_back9 : soffitlaw01_awake.f 499 = some true := by decide +kernel
theorem dgt_nat (n : Int) : (dgt n).toNat = 48 + (n % 10).toNat := by
  unfold dgt
  have : (n % 10).toNat < 10 := by omega
  simp [UInt8.toNat_ofNat]; omega
theorem dgt_isd (n : Int) : isd (dgt n) = true := isd_iff.2 (by have := dgt_nat n; omega)
theorem dg_dgt (n : Int) : dg (dgt n) = n % 10 := by unfold dg; have := dgt_nat n; omega
theorem lowd_all (s : Nat) : ∀ n, (lowd s n).all isd = true := by
  induction s with
  | zero => intro n; rfl
  | succ s ih => intro n; rw [lowd, List.all_append, ih]; simp [dgt_isd]
theorem num_ind {P : Int → Prop} (h1 : ∀ n, 0 ≤ n → n < 10 → P n) (h2 : ∀ n, 10 ≤ n → P (n / 10) → P n) (n : Int) (h : 0 ≤ n) : P n := by
  obtain ⟨m, rfl⟩ := Int.eq_ofNat_of_zero_le h
  induction m using Nat.strongRecOn with
  | ind m ih =>
    by_cases g : m < 10
    · exact h1 _ (by omega) (by omega)
    · have := ih (m / 10) (by omega) (by omega)
      exact h2 _ (by omega) (by rw [show ((m : Int)) / 10 = ((m / 10 : Nat) : Int) by omega]; exact this)
theorem num_all (n : Int) (h : 0 ≤ n) : (num n).all isd = true :=
  num_ind (P := fun n => (num n).all isd = true) (fun n h h' => by rw [num_small h h']; simp [dgt_isd]) (fun n h ih => by rw [num_big h, List.all_append, ih]; simp [dgt_isd]) n h
theorem num_ne (n : Int) : num n ≠ [] := fun h => by have := num_length_pos n; rw [h] at this; simp at this
theorem value_snoc (l : List UInt8) (c : UInt8) : value (l ++ [c]) = 10 * value l + dg c := by
  unfold value; rw [List.map_append, List.reverse_append]; simp only [List.map_cons, List.map_nil, List.reverse_cons, List.reverse_nil, List.nil_append, List.singleton_append, val]; omega
theorem value_num (n : Int) (h : 0 ≤ n) : value (num n) = n :=
  num_ind (P := fun n => value (num n) = n) (fun n h h' => by rw [num_small h h', ← List.nil_append [dgt n], value_snoc, dg_dgt, show value [] = 0 from rfl]; omega)
    (fun n h ih => by rw [num_big h, value_snoc, ih, dg_dgt]; omega) n h
theorem value_low (s : Nat) : ∀ (n : Int) (w : List UInt8), 0 ≤ n → value w = n / 10 ^ s → value (w ++ lowd s n) = n := by
  induction s with
  | zero => intro n w h hw; simp [lowd, hw]
  | succ s ih =>
    intro n w h hw
    rw [lowd, ← List.append_assoc, value_snoc, dg_dgt, ih (n / 10) w (by omega) (by rw [hw, Int.ediv_ediv_of_nonneg (by decide), Int.pow_succ, Int.mul_comm 10])]
    omega
theorem num_head (n : Int) (h : 0 ≤ n) : 1 < (num n).length → (num n).head? ≠ some 48 := by
  have key : ∀ n : Int, 0 ≤ n → (n = 0 ∨ (num n).head? ≠ some 48) := fun n h =>
    num_ind (P := fun n => n = 0 ∨ (num n).head? ≠ some 48) (fun n h h' => by
      rw [num_small h h']
      by_cases g : n = 0
      · exact Or.inl g
      · refine Or.inr (fun e => ?_)
        have e1 : dgt n = 48 := by simpa using e
        have := dgt_nat n
        rw [e1] at this
        have : (48 : UInt8).toNat = 48 := rfl
        omega) (fun n h ih => by
      rw [num_big h]
      rcases ih with ih | ih
      · omega
      · refine Or.inr (fun e => ih ?_)
        rw [List.head?_append] at e
        cases hh : (num (n / 10)).head? with
        | none => exact absurd (List.head?_eq_none_iff.1 hh) (num_ne _)
        | some c => rw [hh] at e; simpa using e) n h
  intro hl
  rcases key n h with rfl | g
  · rw [num_len_small (by omega) (by omega)] at hl; omega
  · exact g
theorem splt_digits : ∀ (w : List UInt8), w.all isd = true → splt w = (w, none) ∧ ∀ p, splt (w ++ 46 :: p) = (w, some p)
  | [], _ => ⟨rfl, fun p => by rw [List.nil_append, splt, if_pos rfl]⟩
  | c :: w, h => by
    rw [List.all_cons, Bool.and_eq_true] at h
    have ih := splt_digits w h.2
    have hc : c ≠ 46 := fun e => by have := isd_iff.1 h.1; rw [e] at this; exact absurd this (by decide)
    exact ⟨by rw [splt, if_neg hc, ih.1], fun p => by rw [List.cons_append, splt, if_neg hc, ih.2 p]⟩
theorem sh_snd {n s : Int} (h : Snd n s) : decS (n.natAbs : Int) s.toNat (decide (n < 0)) = (n, s, 0) := by
  obtain ⟨h0, h1, h2, h3, h4⟩ := h
  unfold decS
  rw [sh_id s.toNat (n.natAbs : Int) (by omega), if_neg (by simp only; omega)]
  by_cases g : n < 0
  · rw [if_pos (by simpa using g)]; simp only [Prod.mk.injEq, and_true]; omega
  · rw [if_neg (by simpa using g)]; simp only [Prod.mk.injEq, and_true]; omega
theorem parse_txt {n s : Int} (h : Snd n s) : parseF (txt n s) = (n, s, 0) := by
  have hsnd := h
  obtain ⟨h0, h1, h2, h3, h4⟩ := h
  obtain ⟨t, rfl⟩ := Int.eq_ofNat_of_zero_le h0
  have hq : 0 ≤ (n.natAbs : Int) / 10 ^ t := Int.ediv_nonneg (by omega) (by have := M.pow_pos t; omega)
  have hlen : (num ((n.natAbs : Int) / 10 ^ t)).length ≤ 12 := num_len_le 11 _ hq (by
    have := Int.ediv_le_self (10 ^ t) (show (0 : Int) ≤ (n.natAbs : Int) by omega); omega)
  have hall := num_all _ hq
  have body : parseS (decide (n < 0)) (num ((n.natAbs : Int) / 10 ^ t) ++ (if 0 < (t : Int) then 46 :: lowd t (n.natAbs : Int) else [])) = (n, (t : Int), 0) := by
    rw [← sh_snd hsnd, Int.toNat_natCast]
    unfold parseS
    have hs := splt_digits _ hall
    have hh : ¬ (num ((n.natAbs : Int) / 10 ^ t) = [] ∨ 1 < (num ((n.natAbs : Int) / 10 ^ t)).length ∧ (num ((n.natAbs : Int) / 10 ^ t)).head? = some 48) := fun g =>
      g.elim (num_ne _) (fun g => num_head _ hq g.1 g.2)
    by_cases ht : 0 < (t : Int)
    · rw [if_pos ht, hs.2]
      obtain ⟨r, rfl⟩ : ∃ r, t = r + 1 := ⟨t - 1, by omega⟩
      have hne : lowd (r + 1) (n.natAbs : Int) ≠ [] := fun e => by have := lowd_length (r + 1) (n.natAbs : Int); rw [e] at this; simp at this
      unfold sel
      rw [if_pos ⟨hall, by simpa using hne, lowd_all _ _⟩]
      simp only [Option.getD_some]
      have htr : Lib.trimRightS (lowd (r + 1) (n.natAbs : Int)) [48] = lowd (r + 1) (n.natAbs : Int) := by
        rw [lowd, trimR_snoc, if_neg]
        intro e
        have := dgt_nat (n.natAbs : Int)
        rw [e] at this
        have : (48 : UInt8).toNat = 48 := rfl
        omega
      unfold parse2
      rw [if_neg hh, htr, lowd_length, if_neg (by omega), value_low _ _ _ (by omega) (value_num _ hq)]
    · obtain rfl : t = 0 := by omega
      rw [if_neg ht, List.append_nil, hs.1]
      unfold sel
      rw [if_pos ⟨hall, by simp, rfl⟩]
      unfold parse2
      have htr : Lib.trimRightS ((none : Option (List UInt8)).getD []) [48] = [] := rfl
      rw [if_neg hh, htr, if_neg (by simp only [List.length_nil]; omega), List.append_nil, value_num _ hq]
      simp
  unfold txt
  rw [Int.toNat_natCast]
  by_cases g : n < 0
  · rw [if_pos g]
    rw [decide_eq_true g] at body
    exact body
  · rw [if_neg g, List.nil_append]
    rw [decide_eq_false g] at body
    obtain ⟨c, l, hc⟩ := List.exists_cons_of_ne_nil (num_ne ((n.natAbs : Int) / 10 ^ t))
    rw [hc] at body hall ⊢
    rw [List.cons_append] at body ⊢
    rw [parseF_other]
    · exact body
    · intro e
      rw [List.all_cons, Bool.and_eq_true] at hall
      have := isd_iff.1 hall.1
      rw [e] at this; exact absurd this (by decide)
theorem un_back {n s : Int} (h : Snd n s) : decS ((un n s).natAbs : Int) 6 (decide (un n s < 0)) = (n, s, 0) := by
  obtain ⟨h0, h1, h2, h3, h4⟩ := h
  have hp := M.pow_pos (6 - s).toNat
  have e1 : ((un n s).natAbs : Int) = (n.natAbs : Int) * 10 ^ (6 - s).toNat := by
    unfold un; rw [Int.natAbs_mul, Int.natCast_mul]; congr 1
  have e2 : un n s < 0 ↔ n < 0 := by
    unfold un
    constructor
    · intro g; by_cases q : n < 0
      · exact q
      · have := Int.mul_nonneg (show 0 ≤ n by omega) (Int.le_of_lt hp); omega
    · intro g; exact Int.mul_neg_of_neg_of_pos g hp
  unfold decS
  have hsh : sh 6 ((n.natAbs : Int) * 10 ^ (6 - s).toNat) = ((n.natAbs : Int), s) := by
    rw [show 6 = s.toNat + (6 - s).toNat by omega, sh_pow, sh_id _ _ (by omega)]
    rw [show ((s.toNat : Nat) : Int) = s by omega]
  rw [e1, hsh, if_neg (by simp only; omega)]
  by_cases g : n < 0
  · rw [if_pos (by simpa using e2.2 g)]; simp only [Prod.mk.injEq, and_true]; omega
  · rw [if_neg (by simpa using mt e2.1 g)]; simp only [Prod.mk.injEq, and_true]; omega
theorem sum_ok {n s n' s' : Int} (h : (addS n s n' s').2.2 = 0) : Snd n s ∧ Snd n' s' ∧ Snd (addS n s n' s').1 (addS n s n' s').2.1 ∧ un (addS n s n' s').1 (addS n s n' s').2.1 = un n s + un n' s' := by
  unfold addS at h ⊢
  by_cases g : Snd n s ∧ Snd n' s'
  · rw [if_pos g] at h ⊢
    refine ⟨g.1, g.2, decS_sound _ _ _ (by omega) (by omega) h, ?_⟩
    generalize un n s + un n' s' = u at h ⊢
    unfold decS at h ⊢
    by_cases h1 : 999999999999 < (sh 6 (u.natAbs : Int)).1
    · rw [if_pos h1] at h; cases h
    · rw [if_neg h1]
      obtain ⟨t, ht, h2, h3, _⟩ := sh_spec 6 (u.natAbs : Int)
      unfold un
      simp only [h2]
      have e : (6 - ((6 - t : Nat) : Int)).toNat = t := by omega
      rw [e]
      by_cases hu : u < 0
      · rw [if_pos (by simpa using hu), Int.neg_mul, ← h3]; omega
      · rw [if_neg (by simpa using hu), ← h3]; omega
  · rw [if_neg g] at h; cases h
theorem txt_len {n s : Int} (h : Snd n s) : (txt n s).length ≤ 100 := by
  obtain ⟨h0, h1, h2, h3, h4⟩ := h
  obtain ⟨t, rfl⟩ := Int.eq_ofNat_of_zero_le h0
  have hq : 0 ≤ (n.natAbs : Int) / 10 ^ t := Int.ediv_nonneg (by omega) (by have := M.pow_pos t; omega)
  have hlen : (num ((n.natAbs : Int) / 10 ^ t)).length ≤ 12 := num_len_le 11 _ hq (by
    have := Int.ediv_le_self (10 ^ t) (show (0 : Int) ≤ (n.natAbs : Int) by omega); omega)
  unfold txt
  rw [Int.toNat_natCast, List.length_append, List.length_append]
  have a : (if n < 0 then [(45 : UInt8)] else []).length ≤ 1 := by split <;> simp
  have b : (if 0 < (t : Int) then 46 :: lowd t (n.natAbs : Int) else []).length ≤ t + 1 := by split <;> simp [lowd_length]
  omega
theorem deciBack_true (n s n' s' : Int) (_ : -9223372036854775808 ≤ n ∧ n ≤ 9223372036854775807) (_ : -9223372036854775808 ≤ s ∧ s ≤ 9223372036854775807)
    (_ : -9223372036854775808 ≤ n' ∧ n' ≤ 9223372036854775807) (_ : -9223372036854775808 ≤ s' ∧ s' ≤ 9223372036854775807) : soffitlaw01_DeciBack.f 500 n s n' s' = some true := by
  unfold soffitlaw01_DeciBack.f
  rw [text_ff (by omega), awake_back]
  simp only [obs, if_true]
  rw [soffitlaw01_DeciBack.j0]
  by_cases h : Snd n s
  · rw [if_pos h, if_neg (by simp)]
    have hl := txt_len h
    rw [parse_ff (by omega) _ (by omega), parse_txt h, add_ff (by omega)]
    simp only [obs, if_true, beq_self_eq_true, Bool.not_true, Bool.or_self]
    rw [soffitlaw01_DeciBack.j1, if_neg (by simp)]
    by_cases he : (addS n s n' s').2.2 = 0
    · rw [if_pos he, neg_ff (by omega)]
      simp only [obs]
      obtain ⟨ha, hb, hs, hu⟩ := sum_ok he
      have hb' : Snd (-n') s' := by obtain ⟨b0, b1, b2, b3, b4⟩ := hb; exact ⟨b0, b1, by omega, by omega, by omega⟩
      rw [if_pos hb, add_ff (by omega)]
      simp only [obs]
      have hr : addS (addS n s n' s').1 (addS n s n' s').2.1 (-n') s' = (n, s, 0) := by
        generalize addS n s n' s' = x at hs hu ⊢
        unfold addS
        rw [if_pos ⟨hs, hb'⟩, hu, show un (-n') s' = - un n' s' by unfold un; rw [Int.neg_mul], show un n s + un n' s' + - un n' s' = un n s by omega]
        exact un_back ha
      rw [hr]; simp
    · rw [if_neg he]
  · rw [if_neg h, if_pos (by simp), awake_back9]; rfl
end Go.Proofs.YtgkemhgihbfmmaaDoor.PA
end
