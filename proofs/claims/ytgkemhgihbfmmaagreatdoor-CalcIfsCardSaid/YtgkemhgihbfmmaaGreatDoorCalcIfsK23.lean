/- Part 24 of the proof for CalcIfs: functions of the program as plain Lean functions, their calls, and what they come to. -/
import Derived.Test.YtgkemhgihbfmmaaGreatDoorCalcIfsK22
import Derived.Test.YtgkemhgihbfmmaaGreatDoorCalcIfsK19
set_option linter.unusedVariables false
set_option linter.unusedSimpArgs false
section
namespace Go.Proofs.YtgkemhgihbfmmaaGreatDoor.PA
open Go.RowKit Go.Proofs.YtgkemhgihbfmmaaGreatDoorW.PrintWords Go.Proofs.YtgkemhgihbfmmaaGreatDoorW.PrintLast Go.Proofs.YtgkemhgihbfmmaaGreatDoorW.PrintMore
theorem bt_nat (s : ByteArray) (p : Nat) (h : p < s.size) : bt s (p : Int) = (U.bt s p : Int) := by
  have : (p : Int).toNat = p := Int.toNat_natCast p
  unfold bt U.bt
  rw [dif_pos (by rw [this]; exact h)]
  simp only [this]
  rw [show s.get! p = s[p] from by first | exact dif_pos h | (unfold ByteArray.get!; rw [dif_pos h]; rfl) | simp [h]]
theorem bt_lt (s : ByteArray) (p : Nat) : U.bt s p < 256 := (s.get! p).toNat_lt
def endOf (k : Nat) (s : ByteArray) (p n : Int) (r least : Nat) : Option Bool := if least ≤ r ∧ U.sgn r = true then soffitref04_good.l0 k s (wrap64 (p + n)) else some false
theorem l1_end (k : Nat) (s : ByteArray) (p n : Int) (r least : Nat) (i : Int) (hi : ¬ i < n) : soffitref04_good.l1 (k + 2) s p n (r : Int) (least : Int) i = endOf k s p n r least := by
  rw [soffitref04_good.l1, if_neg hi]
  unfold endOf
  have jt : soffitref04_good.j6 (k + 1) s p n (!true) = soffitref04_good.l0 k s (wrap64 (p + n)) := by rw [soffitref04_good.j6, if_neg (by simp)]
  have jf : soffitref04_good.j6 (k + 1) s p n (!false) = some false := by rw [soffitref04_good.j6]; rfl
  have jd : soffitref04_good.j6 (k + 1) s p n (!(decide ((r : Int) ≤ 1114111))) = if (r : Int) ≤ 1114111 then soffitref04_good.l0 k s (wrap64 (p + n)) else some false := by
    rw [soffitref04_good.j6]; by_cases q : (r : Int) ≤ 1114111 <;> simp [q]
  by_cases h : least ≤ r
  · rw [if_neg (by omega)]
    simp only [jt, jf, jd]
    by_cases g : U.sgn r = true
    · have e : (if least ≤ r ∧ U.sgn r = true then soffitref04_good.l0 k s (wrap64 (p + n)) else some false) = soffitref04_good.l0 k s (wrap64 (p + n)) := if_pos ⟨h, g⟩
      rw [e]
      simp only [U.sgn, decide_eq_true_eq] at g
      repeat' split
      all_goals first | rfl | (exfalso; omega)
    · have e : (if least ≤ r ∧ U.sgn r = true then soffitref04_good.l0 k s (wrap64 (p + n)) else some false) = some false := if_neg (fun x => g x.2)
      rw [e]
      simp only [U.sgn, decide_eq_true_eq] at g
      repeat' split
      all_goals first | rfl | (exfalso; omega)
  · rw [if_pos (by omega), if_neg (fun x => h x.1), soffitref04_good.j6, if_pos rfl]
theorem l1_step (k : Nat) (s : ByteArray) (p i n : Nat) (r : Nat) (least : Int) (hi : i < n) (hn : n ≤ 8) (hp : p < 1000000000) (hr : r < 1000000000) : soffitref04_good.l1 (k + 2) s (p : Int) (n : Int) (r : Int) least (i : Int) =
    if U.ct s (p + i) then soffitref04_good.l1 k s (p : Int) (n : Int) ((r * 64 + (U.bt s (p + i) - 0x80) : Nat) : Int) least ((i + 1 : Nat) : Int) else some false := by
  have hw : wrap64 ((p : Int) + (i : Int)) = ((p + i : Nat) : Int) := by rw [w64 (by omega) (by omega)]; omega
  rw [soffitref04_good.l1, if_pos (by omega)]
  simp only [hw]
  by_cases h : p + i < s.size
  · rw [if_neg (by omega), if_pos (by omega), if_pos (by omega), bt_nat s (p + i) h]
    have hb := bt_lt s (p + i)
    by_cases h1 : U.bt s (p + i) < 128
    · rw [if_pos (by omega), soffitref04_good.j5, if_pos rfl, if_neg]; rintro ⟨_, x, _⟩; omega
    · rw [if_neg (by omega)]
      by_cases h2 : 192 ≤ U.bt s (p + i)
      · rw [show decide (((U.bt s (p + i) : Nat) : Int) ≥ 192) = true by simp; omega, soffitref04_good.j5, if_pos rfl, if_neg]; rintro ⟨_, _, x⟩; omega
      · rw [show decide (((U.bt s (p + i) : Nat) : Int) ≥ 192) = false by simp; omega, soffitref04_good.j5, if_neg (by simp)]
        simp only [hw]
        rw [if_pos (by omega), if_pos (by omega), bt_nat s (p + i) h, if_pos (show U.ct s (p + i) from ⟨h, by omega, by omega⟩)]
        rw [w64 (x := (r : Int) * 64) (by omega) (by omega), w64 (x := ((U.bt s (p + i) : Nat) : Int)) (by omega) (by omega), w64 (x := (r : Int) * 64 + ((U.bt s (p + i) : Nat) : Int)) (by omega) (by omega), w64 (x := (r : Int) * 64 + ((U.bt s (p + i) : Nat) : Int) - 128) (by omega) (by omega), w64 (x := (i : Int) + 1) (by omega) (by omega)]
        congr 1; omega
  · rw [if_pos (by omega), soffitref04_good.j5, if_pos rfl, if_neg]; rintro ⟨x, _⟩; omega
theorem good_step (k : Nat) (s : ByteArray) (p : Nat) (h : p < s.size) (hs : s.size < 100000) : ∃ k', k ≤ k' ∧ soffitref04_good.l0 (k + 16) s (p : Int) = match U.look s p with
    | none => some false
    | some n => soffitref04_good.l0 k' s ((p + n : Nat) : Int) := by
  have hb := bt_lt s p
  have hw : ∀ n : Nat, n < 10 → wrap64 ((p : Int) + (n : Int)) = ((p + n : Nat) : Int) := fun n hn => by rw [w64 (by omega) (by omega)]; omega
  rw [soffitref04_good.l0, if_pos (by omega), if_pos (by omega), bt_nat s p h, w64 (by omega) (by omega)]
  unfold U.look
  by_cases g0 : U.bt s p < 0x80
  · rw [if_pos (by omega), if_pos g0, soffitref04_good.j3]
    refine ⟨k + 12, by omega, ?_⟩
    have := l1_end (k + 12) s p 1 (U.bt s p) 0 1 (by omega)
    rw [show (((0 : Nat) : Int)) = 0 from rfl] at this
    rw [show k + 14 = k + 12 + 2 from rfl, this]
    unfold endOf
    rw [show ((1 : Int)) = ((1 : Nat) : Int) from rfl, hw 1 (by omega)]
    by_cases g : U.sgn (U.bt s p) = true <;> simp [g]
  rw [if_neg (by omega), if_neg g0]
  have j1f : ∀ (K : Nat) (x : Int), soffitref04_good.j1 (K + 1) s (p : Int) x false = if x ≥ 224 then soffitref04_good.j2 K s p x (decide (x < 240)) else soffitref04_good.j2 K s p x false := fun K x => by rw [soffitref04_good.j1, if_neg (by simp)]
  have j1t : ∀ (K : Nat) (x : Int), soffitref04_good.j1 (K + 1) s (p : Int) x true = soffitref04_good.j3 K s p 2 (wrap64 (x - 192)) 128 := fun K x => by rw [soffitref04_good.j1, if_pos rfl]
  have j2f : ∀ (K : Nat) (x : Int), soffitref04_good.j2 (K + 1) s (p : Int) x false = if x ≥ 240 then if x < 248 then soffitref04_good.j3 K s p 4 (wrap64 (x - 240)) 65536 else some false else some false := fun K x => by rw [soffitref04_good.j2, if_neg (by simp)]
  have j2t : ∀ (K : Nat) (x : Int), soffitref04_good.j2 (K + 1) s (p : Int) x true = soffitref04_good.j3 K s p 3 (wrap64 (x - 224)) 2048 := fun K x => by rw [soffitref04_good.j2, if_pos rfl]
  by_cases g1 : 0xC0 ≤ U.bt s p
  · rw [if_pos (show ((U.bt s p : Nat) : Int) ≥ 192 from by omega)]
    by_cases g2 : U.bt s p < 0xE0
    · rw [show decide (((U.bt s p : Nat) : Int) < 224) = true by simp; omega, j1t, if_pos ⟨g1, g2⟩, soffitref04_good.j3, w64 (by omega) (by omega)]
      refine ⟨k + 9, by omega, ?_⟩
      have e : ((U.bt s p : Nat) : Int) - 192 = ((U.bt s p - 0xC0 : Nat) : Int) := by omega
      have st := l1_step (k + 11) s p 1 2 (U.bt s p - 0xC0) 128 (by omega) (by omega) (by omega) (by omega)
      rw [e, show (1 : Int) = ((1 : Nat) : Int) from rfl, show (2 : Int) = ((2 : Nat) : Int) from rfl, show k + 13 = k + 11 + 2 from rfl, st]
      by_cases c1 : U.ct s (p + 1)
      · rw [if_pos c1]
        have := l1_end (k + 9) s p 2 ((U.bt s p - 0xC0) * 64 + (U.bt s (p + 1) - 0x80)) 128 2 (by omega)
        refine Eq.trans this ?_
        unfold endOf
        rw [show ((2 : Int)) = ((2 : Nat) : Int) from rfl, hw 2 (by omega)]
        simp only [c1, true_and]
        split <;> simp_all
      · simp [c1]
    · rw [show decide (((U.bt s p : Nat) : Int) < 224) = false by simp; omega, j1f, if_neg (show ¬ (0xC0 ≤ U.bt s p ∧ U.bt s p < 0xE0) from fun x => g2 x.2), if_pos (show ((U.bt s p : Nat) : Int) ≥ 224 from by omega)]
      by_cases g3 : U.bt s p < 0xF0
      · rw [show decide (((U.bt s p : Nat) : Int) < 240) = true by simp; omega, j2t, if_pos (show 0xE0 ≤ U.bt s p ∧ U.bt s p < 0xF0 from ⟨by omega, g3⟩), soffitref04_good.j3, w64 (by omega) (by omega)]
        refine ⟨k + 6, by omega, ?_⟩
        have e : ((U.bt s p : Nat) : Int) - 224 = ((U.bt s p - 0xE0 : Nat) : Int) := by omega
        have b1 := bt_lt s (p + 1)
        have st := l1_step (k + 10) s p 1 3 (U.bt s p - 0xE0) 2048 (by omega) (by omega) (by omega) (by omega)
        have st2 := l1_step (k + 8) s p 2 3 ((U.bt s p - 0xE0) * 64 + (U.bt s (p + 1) - 0x80)) 2048 (by omega) (by omega) (by omega) (by omega)
        rw [e, show (1 : Int) = ((1 : Nat) : Int) from rfl, show (3 : Int) = ((3 : Nat) : Int) from rfl, show k + 12 = k + 10 + 2 from rfl, st]
        by_cases c1 : U.ct s (p + 1)
        · rw [if_pos c1, show k + 10 = k + 8 + 2 from rfl, show (1 + 1) = 2 from rfl, st2]
          by_cases c2 : U.ct s (p + 2)
          · rw [if_pos c2]
            have := l1_end (k + 6) s p 3 (((U.bt s p - 0xE0) * 64 + (U.bt s (p + 1) - 0x80)) * 64 + (U.bt s (p + 2) - 0x80)) 2048 3 (by omega)
            refine Eq.trans this ?_
            unfold endOf
            rw [show ((3 : Int)) = ((3 : Nat) : Int) from rfl, hw 3 (by omega)]
            simp only [c1, c2, true_and]
            split <;> simp_all
          · simp [c2]
        · simp [c1]
      · rw [show decide (((U.bt s p : Nat) : Int) < 240) = false by simp; omega, j2f, if_neg (show ¬ (0xE0 ≤ U.bt s p ∧ U.bt s p < 0xF0) from fun x => g3 x.2), if_pos (show ((U.bt s p : Nat) : Int) ≥ 240 from by omega)]
        by_cases g4 : U.bt s p < 0xF8
        · rw [if_pos (show ((U.bt s p : Nat) : Int) < 248 from by omega), if_pos (show 0xF0 ≤ U.bt s p ∧ U.bt s p < 0xF8 from ⟨by omega, g4⟩), soffitref04_good.j3, w64 (by omega) (by omega)]
          refine ⟨k + 4, by omega, ?_⟩
          have e : ((U.bt s p : Nat) : Int) - 240 = ((U.bt s p - 0xF0 : Nat) : Int) := by omega
          have b1 := bt_lt s (p + 1)
          have b2 := bt_lt s (p + 2)
          have st := l1_step (k + 10) s p 1 4 (U.bt s p - 0xF0) 65536 (by omega) (by omega) (by omega) (by omega)
          have st2 := l1_step (k + 8) s p 2 4 ((U.bt s p - 0xF0) * 64 + (U.bt s (p + 1) - 0x80)) 65536 (by omega) (by omega) (by omega) (by omega)
          have st3 := l1_step (k + 6) s p 3 4 (((U.bt s p - 0xF0) * 64 + (U.bt s (p + 1) - 0x80)) * 64 + (U.bt s (p + 2) - 0x80)) 65536 (by omega) (by omega) (by omega) (by omega)
          rw [e, show (1 : Int) = ((1 : Nat) : Int) from rfl, show (4 : Int) = ((4 : Nat) : Int) from rfl, show k + 12 = k + 10 + 2 from rfl, st]
          by_cases c1 : U.ct s (p + 1)
          · rw [if_pos c1, show k + 10 = k + 8 + 2 from rfl, show (1 + 1) = 2 from rfl, st2]
            by_cases c2 : U.ct s (p + 2)
            · rw [if_pos c2, show k + 8 = k + 6 + 2 from rfl, show (2 + 1) = 3 from rfl, st3]
              by_cases c3 : U.ct s (p + 3)
              · rw [if_pos c3]
                have := l1_end (k + 4) s p 4 ((((U.bt s p - 0xF0) * 64 + (U.bt s (p + 1) - 0x80)) * 64 + (U.bt s (p + 2) - 0x80)) * 64 + (U.bt s (p + 3) - 0x80)) 65536 4 (by omega)
                refine Eq.trans this ?_
                unfold endOf
                rw [show ((4 : Int)) = ((4 : Nat) : Int) from rfl, hw 4 (by omega)]
                simp only [c1, c2, c3, true_and]
                split <;> simp_all
              · simp [c3]
            · simp [c2]
          · simp [c1]
        · rw [if_neg (show ¬ ((U.bt s p : Nat) : Int) < 248 from by omega), if_neg (show ¬ (0xF0 ≤ U.bt s p ∧ U.bt s p < 0xF8) from fun x => g4 x.2)]; exact ⟨k, by omega, rfl⟩
  · rw [if_neg (show ¬ ((U.bt s p : Nat) : Int) ≥ 192 from by omega), if_neg (show ¬ (0xC0 ≤ U.bt s p ∧ U.bt s p < 0xE0) from fun x => g1 x.1), if_neg (show ¬ (0xE0 ≤ U.bt s p ∧ U.bt s p < 0xF0) from by omega), if_neg (show ¬ (0xF0 ≤ U.bt s p ∧ U.bt s p < 0xF8) from by omega), j1f, if_neg (show ¬ ((U.bt s p : Nat) : Int) ≥ 224 from by omega), j2f, if_neg (show ¬ ((U.bt s p : Nat) : Int) ≥ 240 from by omega)]; exact ⟨k, by omega, rfl⟩
theorem sign_sgn (r : Nat) : (chars_sign.f (r : Int)).getD false = U.sgn r := by
  unfold chars_sign.f
  by_cases g : U.sgn r = true
  · rw [g]; simp only [U.sgn, decide_eq_true_eq] at g
    repeat' split
    all_goals first | rfl | (exfalso; omega) | (simp only [Option.getD_some, decide_eq_true_eq]; omega)
  · simp only [Bool.not_eq_true] at g
    rw [g]; simp only [U.sgn, decide_eq_false_iff_not] at g
    repeat' split
    all_goals first | rfl | (exfalso; omega) | (simp only [Option.getD_some, decide_eq_false_iff_not]; omega)
theorem badAt_bad (s : ByteArray) (p : Nat) : badAt s p = U.bad s p := by
  unfold badAt U.bad; rw [sign_sgn]
theorem good_l0 (s : ByteArray) (hs : s.size < 100000) : ∀ (f p k : Nat), s.size ≤ p + f → 16 * f < k → soffitref04_good.l0 k s (p : Int) = some (decide (badFrom s f p < 0))
  | 0, p, k, h, hk => by
    obtain ⟨k, rfl⟩ := succ_of (show 0 < k by omega)
    rw [soffitref04_good.l0, if_neg (by omega)]; rfl
  | f + 1, p, k, h, hk => by
    by_cases hp : p < s.size
    · obtain ⟨m, rfl⟩ : ∃ m, k = m + 16 := ⟨k - 16, by omega⟩
      obtain ⟨k', hk', e⟩ := good_step m s p hp hs
      rw [e, U.look_eq, badFrom, if_pos hp, badAt_bad]
      by_cases hb : U.bad s p = true
      · rw [if_pos hb, if_pos hb]; simp
      · rw [if_neg hb, if_neg hb]
        have hw := Lib.width_pos s p
        exact good_l0 s hs f (p + (Utf8.decode s p).2) k' (by omega) (by omega)
    · obtain ⟨k, rfl⟩ := succ_of (show 0 < k by omega)
      rw [soffitref04_good.l0, if_neg (by omega), badFrom, if_neg hp]; rfl
theorem good_f {k : Nat} {s : ByteArray} (hs : s.size ≤ 256) (hk : 4200 ≤ k) : soffitref04_good.f k s = some (decide (badFrom s s.size 0 < 0)) :=
  good_l0 s (by omega) s.size 0 k (by omega) (by omega)
end Go.Proofs.YtgkemhgihbfmmaaGreatDoor.PA
end
section
namespace Go.Proofs.YtgkemhgihbfmmaaGreatDoor.PA
open Go.RowKit Go.Proofs.YtgkemhgihbfmmaaGreatDoorW.PrintWords Go.Proofs.YtgkemhgihbfmmaaGreatDoorW.PrintLast Go.Proofs.YtgkemhgihbfmmaaGreatDoorW.PrintMore
open Go.Proofs.YtgkemhgihbfmmaaGreatDoor.M
theorem and1 (x : Int) : Go.bits .and .i64 x 1 = 0 ∨ Go.bits .and .i64 x 1 = 1 := by
  have e : Go.bits .and .i64 x 1 = IntKind.i64.wrap (((BitVec.ofInt 64 x &&& BitVec.ofInt 64 1).toNat : Nat) : Int) := rfl
  have h1 : (BitVec.ofInt 64 (1 : Int)).toNat = 1 := by decide
  rw [e, BitVec.toNat_and, h1, Nat.and_one_is_mod]
  have : (BitVec.ofInt 64 x).toNat % 2 = 0 ∨ (BitVec.ofInt 64 x).toNat % 2 = 1 := by omega
  rcases this with h | h <;> rw [h] <;> decide
theorem and1_eq (x : Int) : (x == Go.bits .and .i64 x 1) = decide (x = 0 ∨ x = 1) := by
  by_cases h0 : x = 0
  · subst h0; decide
  · by_cases h1 : x = 1
    · subst h1; decide
    · rcases and1 x with h | h <;> rw [h] <;> simp [h0, h1]
def vsd (a n s : Int) (t : ByteArray) (x : Int) : Bool :=
  if a = 0 then n == 0 && s == 0 && t.toList == ([] : List UInt8) && x == 0
  else if a = 1 then decide (Snd n s) && t.toList == ([] : List UInt8) && x == 0
  else if a = 2 then n == 0 && s == 0 && x == 0 && decide (t.size ≤ 256) && decide (badFrom t t.size 0 < 0)
  else if a = 3 then n == 0 && s == 0 && t.toList == ([] : List UInt8) && decide (x = 0 ∨ x = 1)
  else if a = 4 then n == 0 && s == 0 && t.toList == ([] : List UInt8) && decide (0 ≤ x ∧ x ≤ 3652058)
  else false
theorem vsound_f {k : Nat} (hk : 10 ≤ k) (a n s : Int) (t : ByteArray) (x : Int) : value_Sound.f k a n s t x = some (vsd a n s t x) := by
  unfold value_Sound.f vsd
  by_cases h0 : a = 0
  · rw [if_pos h0, if_pos h0]; simp only [Bool.and_assoc]
  rw [if_neg h0, if_neg h0]
  by_cases h1 : a = 1
  · rw [if_pos h1, if_pos h1, sound_f hk]
    simp only [Option.bind_some]
    by_cases g : (t.toList == ([] : List UInt8) && (x == 0)) = true
    · rw [if_pos g]; simp only [Bool.and_assoc, g, Bool.and_true]
    · rw [if_neg g]; simp only [Bool.not_eq_true] at g; simp only [Bool.and_assoc, g, Bool.and_false]
  rw [if_neg h1, if_neg h1]
  by_cases h2 : a = 2
  · rw [if_pos h2, if_pos h2]
    by_cases g : ((n == 0 && (s == 0)) && (x == 0)) = true
    · rw [if_pos g, g]
      by_cases q : t.size ≤ 256
      · rw [if_pos (by omega)]
        unfold chars_Good.f chars_Bad.f
        rw [if_pos (by omega)]
        simp [q]
      · rw [if_neg (by omega)]; simp [q]
    · rw [if_neg g]; simp only [Bool.not_eq_true] at g; simp [g]
  rw [if_neg h2, if_neg h2]
  by_cases h3 : a = 3
  · rw [if_pos h3, if_pos h3, and1_eq]; simp only [Bool.and_assoc]
  rw [if_neg h3, if_neg h3]
  by_cases h4 : a = 4
  · rw [if_pos h4, if_pos h4]
    have : (x == mx 0 (mn x 3652058)) = decide (0 ≤ x ∧ x ≤ 3652058) := by
      unfold mx mn
      rw [Bool.eq_iff_iff]; simp only [beq_iff_eq, decide_eq_true_eq]
      split <;> split <;> omega
    rw [this]; simp only [Bool.and_assoc]
  · rw [if_neg h4, if_neg h4]
theorem refvsound_f {k : Nat} (hk : 4300 ≤ k) (a n s : Int) (t : ByteArray) (x : Int) : soffitref04_Sound.f k a n s t x = some (vsd a n s t x) := by
  obtain ⟨k, rfl⟩ : ∃ m, k = m + 1 := ⟨k - 1, by omega⟩
  have e : soffitref04_Sound.f (k + 1) a n s t x = soffitref04_Sound.j0 (k + 1) (n == 0 && s == 0) a n s t x := by
    unfold soffitref04_Sound.f
    by_cases h : n = 0
    · simp [h]
    · rw [if_neg h, show (n == 0) = false from beq_eq_false_iff_ne.mpr h]; rfl
  rw [e, soffitref04_Sound.j0]
  unfold vsd
  obtain ⟨d, hd⟩ : ∃ d, (n == 0 && s == 0) = d := ⟨_, rfl⟩
  obtain ⟨u, hu⟩ : ∃ u, (t.toList == ([] : List UInt8)) = u := ⟨_, rfl⟩
  have hu' : (t.toList = ([] : List UInt8)) = (u = true) := by rw [← hu]; simp
  simp only [hd, hu, hu']
  rw [refsound_f (by omega)]
  by_cases h0 : a = 0
  · rw [if_pos h0, if_pos h0]; cases d <;> cases u <;> simp
  rw [if_neg h0, if_neg h0]
  by_cases h1 : a = 1
  · rw [if_pos h1, if_pos h1]; simp only [Option.bind_some]
    by_cases g : Snd n s <;> cases u <;> simp [g]
  rw [if_neg h1, if_neg h1]
  by_cases h2 : a = 2
  · rw [if_pos h2, if_pos h2]
    by_cases q : t.size ≤ 256
    · rw [if_pos (show (t.size : Int) ≤ 256 by omega), good_f q (by omega)]
      by_cases g : x = 0 <;> cases d <;> simp [q, g]
    · rw [if_neg (show ¬ (t.size : Int) ≤ 256 by omega)]
      by_cases g : x = 0 <;> cases d <;> simp [q, g]
  rw [if_neg h2, if_neg h2]
  by_cases h3 : a = 3
  · rw [if_pos h3, if_pos h3]
    by_cases g : x = 0 <;> cases d <;> cases u <;> simp [g]
    exact Bool.beq_eq_decide_eq _ _
  rw [if_neg h3, if_neg h3]
  by_cases h4 : a = 4
  · rw [if_pos h4, if_pos h4]
    by_cases g : 0 ≤ x <;> cases d <;> cases u <;> simp [g]
  · rw [if_neg h4, if_neg h4]
end Go.Proofs.YtgkemhgihbfmmaaGreatDoor.PA
end
section
namespace Go.Proofs.YtgkemhgihbfmmaaGreatDoor.PA
open Go.RowKit Go.Proofs.YtgkemhgihbfmmaaGreatDoorW.PrintWords Go.Proofs.YtgkemhgihbfmmaaGreatDoorW.PrintLast Go.Proofs.YtgkemhgihbfmmaaGreatDoorW.PrintMore
theorem up {α : Type} {f : Nat → Option α} (h : ∀ k, LeO (f k) (f (k + 1))) {k k' : Nat} (hk : k ≤ k') {r : α} (e : f k = some r) : f k' = some r := by
  induction k' with
  | zero => obtain rfl : k = 0 := by omega
            exact e
  | succ m ih =>
    by_cases g : k = m + 1
    · subst g; exact e
    · exact h m r (ih (by omega))
theorem mem_compact {z : List UInt8} {zs : List (List UInt8)} : z ∈ Lib.compact zs ↔ z ∈ zs := by
  unfold Lib.compact Lib.compactUpTo
  simp only [List.mem_map, List.mem_filter, List.mem_range]
  constructor
  · rintro ⟨j, ⟨hj, _⟩, rfl⟩
    rw [getElem!_pos zs.toArray j (by simpa using hj)]
    simp
  · intro h
    obtain ⟨j, hj, e⟩ := List.getElem_of_mem h
    induction j with
    | zero => exact ⟨0, ⟨hj, by simp [Lib.keeps]⟩, by rw [getElem!_pos zs.toArray 0 (by simpa using hj)]; simpa using e⟩
    | succ j ih =>
      by_cases g : Lib.keeps zs.toArray (j + 1) = true
      · exact ⟨j + 1, ⟨hj, g⟩, by rw [getElem!_pos zs.toArray (j + 1) (by simpa using hj)]; simpa using e⟩
      · refine ih (by omega) ?_
        simp only [Lib.keeps] at g
        simp at g
        have h1 : zs.toArray[j]! = zs[j]'(by omega) := by rw [getElem!_pos zs.toArray j (by simp; omega)]; simp
        have h2 : zs.toArray[j + 1]! = zs[j + 1] := by rw [getElem!_pos zs.toArray (j + 1) (by simpa using hj)]; simp
        simp_all
def has (l : List S27) (n : ByteArray) : Bool := l.any fun y => y.f0.toList == n.toList
theorem fnd_any (q : S27 → Bool) : ∀ (l : List S27) (i : Nat), ∃ r, fnd (fun y => some (q y)) l i = some r ∧ decide (0 ≤ r) = l.any q
  | [], i => ⟨-1, rfl, rfl⟩
  | y :: t, i => by
    simp only [fnd, Option.bind_some, List.any_cons]
    by_cases h : q y = true
    · exact ⟨i, by rw [if_pos h], by simp [h]⟩
    · obtain ⟨r, e, g⟩ := fnd_any q t (i + 1)
      exact ⟨r, by rw [if_neg h, e], by simp [h, g]⟩
theorem allHave_f (l : List S27) : ∀ ns, allHave l ns = some (ns.all (has l))
  | [] => rfl
  | n :: t => by
    obtain ⟨r, e, g⟩ := fnd_any (fun y => y.f0.toList == n.toList) l 0
    simp only [allHave, e, Option.bind_some, List.all_cons]
    have g' : decide (0 ≤ r) = has l n := g
    by_cases h : 0 ≤ r
    · rw [if_pos h, allHave_f l t, ← g']; simp [h]
    · rw [if_neg h, ← g']; simp [h]
theorem toL (b : ByteArray) : (⟨b.data.toList.toArray⟩ : ByteArray) = b := by obtain ⟨⟨l⟩⟩ := b; rfl
theorem names_all (l : List S27) (r : List ByteArray) : (((sortNames r).map fun b => (⟨b.toArray⟩ : ByteArray)).all (has l)) = r.all (has l) := by
  rw [Bool.eq_iff_iff]
  simp only [List.all_eq_true, List.mem_map]
  have m : ∀ z, z ∈ sortNames r ↔ ∃ b ∈ r, b.data.toList = z := by
    intro z
    unfold sortNames
    rw [mem_compact, List.mem_mergeSort, List.mem_map]
  constructor
  · intro h b hb
    exact h b ⟨b.data.toList, (m _).mpr ⟨b, hb, rfl⟩, toL b⟩
  · rintro h _ ⟨z, hz, rfl⟩
    obtain ⟨b, hb, rfl⟩ := (m z).mp hz
    rw [toL]; exact h b hb
def uns (y : S27) : Bool := !vsd y.f1.f0 y.f1.f1.f0 y.f1.f1.f1 y.f1.f2 y.f1.f3
theorem unsound_f {k : Nat} (hk : 10 ≤ k) : unsound27 k = fun y => some (uns y) := by
  funext y
  unfold unsound27 uns
  rw [vsound_f hk]; rfl
theorem eval_f {k : Nat} (hk : 10 ≤ k) {a0 a1 a2 a3 : Int} {a4 : ByteArray} {a5 : Int} {a6 : ByteArray} {l7 : List S31} {l1 : List S27} (hl : l1.length < 4611686018427387904) {ok : Bool} (hs : expr_Sound.f k a0 a1 a2 a3 a4 a5 a6 l7 = some ok) :
    calc_Eval.f k a0 a1 a2 a3 a4 a5 a6 l7 l1 = if ok = true then if l1.any uns = true then some (0, 0, 0, ⟨#[]⟩, 0, 2) else (expr_names.f k a0 a1 a2 a3 a4 a5 a6 l7).bind fun r => if r.length < 4611686018427387904 then
      if r.all (has l1) = true then (calc_scope_eval.f k l1 a0 a1 a2 a3 a4 a5 a6 l7).bind fun v => some (v.1, v.2.1, v.2.2.1, v.2.2.2.1, v.2.2.2.2, 0) else some (0, 0, 0, ⟨#[]⟩, 0, 7) else none else some (0, 0, 0, ⟨#[]⟩, 0, 2) := by
  unfold calc_Eval.f expr_Names.f
  rw [hs]
  simp only [Option.bind_some]
  by_cases ho : ok = true
  · rw [if_pos ho, if_pos ho, if_pos hl, if_pos ho, unsound_f hk]
    obtain ⟨r, e, g⟩ := fnd_any uns l1 0
    rw [e]
    simp only [Option.bind_some]
    by_cases h : 0 ≤ r
    · rw [if_pos h, if_pos (by rw [← g]; simpa using h)]
    · rw [if_neg h, if_neg (by rw [← g]; simpa using h)]
      cases hn : expr_names.f k a0 a1 a2 a3 a4 a5 a6 l7 with
      | none => rfl
      | some ns =>
        simp only [Option.bind_some]
        by_cases hb : ns.length < 4611686018427387904
        · rw [if_pos hb, if_pos hb]
          simp only [Option.bind_some]
          rw [allHave_f, names_all]
          rfl
        · rw [if_neg hb, if_neg hb]; rfl
  · rw [if_neg ho, if_neg ho]
end Go.Proofs.YtgkemhgihbfmmaaGreatDoor.PA
end
section
namespace Go.Proofs.YtgkemhgihbfmmaaGreatDoor.PA
open Go.RowKit Go.Proofs.YtgkemhgihbfmmaaGreatDoorW.PrintWords Go.Proofs.YtgkemhgihbfmmaaGreatDoorW.PrintLast Go.Proofs.YtgkemhgihbfmmaaGreatDoorW.PrintMore
def awakeText : ByteArray := ⟨#[105, 102, 32, 97, 32, 62, 32, 50, 32, 116, 104, 101, 110, 32, 97, 32, 42, 32, 50, 46, 53, 32, 101, 108, 115, 101, 32, 110, 117, 108, 108]⟩
def bare (op : Int) (kids : List S31) : S31 := ⟨op, ⟨0, ⟨0, 0⟩, ⟨#[]⟩, 0⟩, ⟨#[]⟩, kids⟩
def num (n s : Int) : S31 := ⟨1, ⟨1, ⟨n, s⟩, ⟨#[]⟩, 0⟩, ⟨#[]⟩, []⟩
def nul : S31 := ⟨1, ⟨0, ⟨0, 0⟩, ⟨#[]⟩, 0⟩, ⟨#[]⟩, []⟩
def nam (b : UInt8) : S31 := ⟨2, ⟨0, ⟨0, 0⟩, ⟨#[]⟩, 0⟩, ⟨#[b]⟩, []⟩
def awakeKids : List S31 := [bare 12 [nam 97, num 2 0], bare 6 [nam 97, num 25 1], nul]
set_option maxRecDepth 100000 in
theorem awake_parse : expr_Parse.f 200 awakeText = some (17, 0, 0, 0, ⟨#[]⟩, 0, ⟨#[]⟩, awakeKids, 0, 0) := by kernel_rfl
set_option maxRecDepth 100000 in
theorem awake_sound : expr_Sound.f 200 17 0 0 0 ⟨#[]⟩ 0 ⟨#[]⟩ awakeKids = some true := by kernel_rfl
set_option maxRecDepth 100000 in
theorem awake_names : expr_names.f 200 17 0 0 0 ⟨#[]⟩ 0 ⟨#[]⟩ awakeKids = some [⟨#[97]⟩, ⟨#[97]⟩] := by kernel_rfl
def awakeList : List S27 := [⟨⟨#[97]⟩, ⟨1, ⟨3, 0⟩, ⟨#[]⟩, 0⟩⟩]
set_option maxRecDepth 100000 in
theorem awake_val : calc_scope_eval.f 200 awakeList 17 0 0 0 ⟨#[]⟩ 0 ⟨#[]⟩ awakeKids = some (1, 75, 1, ⟨#[]⟩, 0) := by kernel_rfl
theorem awake_eval : calc_Eval.f 200 17 0 0 0 ⟨#[]⟩ 0 ⟨#[]⟩ awakeKids awakeList = some (1, 75, 1, ⟨#[]⟩, 0, 0) := by
  rw [eval_f (by decide) (by decide) awake_sound, if_pos rfl, if_neg (by decide +kernel), awake_names]
  simp only [Option.bind_some]
  rw [if_pos (by decide), if_pos (by decide +kernel), awake_val]
  rfl
theorem awake_f {k : Nat} (hk : 200 ≤ k) : soffitlaw11_awake.f k = some true := by
  refine up (fun k => soffitlaw11_awake.mono k) hk ?_
  unfold soffitlaw11_awake.f
  refine Option.bind_eq_some_iff.mpr ⟨_, awake_parse, ?_⟩
  refine Option.bind_eq_some_iff.mpr ⟨_, awake_eval, ?_⟩
  kernel_rfl
end Go.Proofs.YtgkemhgihbfmmaaGreatDoor.PA
end
section
namespace Go.Proofs.YtgkemhgihbfmmaaGreatDoor.PA
open Go.RowKit Go.Proofs.YtgkemhgihbfmmaaGreatDoorW.PrintWords Go.Proofs.YtgkemhgihbfmmaaGreatDoorW.PrintLast Go.Proofs.YtgkemhgihbfmmaaGreatDoorW.PrintMore
def ifsKids : List S31 := [nam 97, nam 98, nam 99]
set_option maxRecDepth 100000 in
theorem ifs_parse : expr_Parse.f 200 ⟨#[105, 102, 32, 97, 32, 116, 104, 101, 110, 32, 98, 32, 101, 108, 115, 101, 32, 99]⟩ = some (17, 0, 0, 0, ⟨#[]⟩, 0, ⟨#[]⟩, ifsKids, 0, 0) := by kernel_rfl
set_option maxRecDepth 100000 in
theorem ifs_sound : expr_Sound.f 200 17 0 0 0 ⟨#[]⟩ 0 ⟨#[]⟩ ifsKids = some true := by kernel_rfl
set_option maxRecDepth 100000 in
theorem ifs_names : expr_names.f 200 17 0 0 0 ⟨#[]⟩ 0 ⟨#[]⟩ ifsKids = some [⟨#[97]⟩, ⟨#[98]⟩, ⟨#[99]⟩] := by kernel_rfl
section
variable (a0 a1 a2 a4 b0 b1 b2 b4 c0 c1 c2 c4 : Int) (a3 b3 c3 : ByteArray)
def ifsList : List S27 := [⟨⟨#[97]⟩, ⟨a0, ⟨a1, a2⟩, a3, a4⟩⟩, ⟨⟨#[98]⟩, ⟨b0, ⟨b1, b2⟩, b3, b4⟩⟩, ⟨⟨#[99]⟩, ⟨c0, ⟨c1, c2⟩, c3, c4⟩⟩]
def isT : Bool := a0 == 3 && ((a1 == 0 && a2 == 0) && (a3.toList == (⟨#[]⟩ : ByteArray).toList && a4 == 1))
theorem ifs_val : calc_scope_eval.f 200 (ifsList a0 a1 a2 a4 b0 b1 b2 b4 c0 c1 c2 c4 a3 b3 c3) 17 0 0 0 ⟨#[]⟩ 0 ⟨#[]⟩ ifsKids = if isT a0 a1 a2 a4 a3 = true then some (b0, b1, b2, b3, b4) else some (c0, c1, c2, c3, c4) := by
  have n : ∀ (k : Nat) (i : Nat) (b : UInt8) (v : S25), standin_IndexName.f (ifsList a0 a1 a2 a4 b0 b1 b2 b4 c0 c1 c2 c4 a3 b3 c3) 2 0 0 0 ⟨#[]⟩ 0 ⟨#[b]⟩ [] = some (i : Int) → i < 3 → rd_T27 (ifsList a0 a1 a2 a4 b0 b1 b2 b4 c0 c1 c2 c4 a3 b3 c3) (i : Int) = ⟨⟨#[b]⟩, v⟩ →
      calc_scope_eval.f (k + 1) (ifsList a0 a1 a2 a4 b0 b1 b2 b4 c0 c1 c2 c4 a3 b3 c3) 2 0 0 0 ⟨#[]⟩ 0 ⟨#[b]⟩ [] = some (v.f0, v.f1.f0, v.f1.f1, v.f2, v.f3) := by
    intro k i b v h1 h2 h3
    rw [calc_scope_eval.f, if_neg (by decide), if_pos rfl, h1]
    simp only [Option.bind_some]
    rw [if_pos (by omega), if_pos (by show (i : Int) < 3; omega), h3]
  have na := n 198 0 97 ⟨a0, ⟨a1, a2⟩, a3, a4⟩ (by kernel_rfl) (by decide) (by kernel_rfl)
  have nb := n 198 1 98 ⟨b0, ⟨b1, b2⟩, b3, b4⟩ (by kernel_rfl) (by decide) (by kernel_rfl)
  have nc := n 198 2 99 ⟨c0, ⟨c1, c2⟩, c3, c4⟩ (by kernel_rfl) (by decide) (by kernel_rfl)
  rw [calc_scope_eval.f, if_neg (by decide), if_neg (by decide), if_pos rfl, if_pos (by decide)]
  rw [show calc_scope_eval.f 199 _ (rd_T31 ifsKids 0).f0 (rd_T31 ifsKids 0).f1.f0 (rd_T31 ifsKids 0).f1.f1.f0 (rd_T31 ifsKids 0).f1.f1.f1 (rd_T31 ifsKids 0).f1.f2 (rd_T31 ifsKids 0).f1.f3 (rd_T31 ifsKids 0).f2 (rd_T31 ifsKids 0).f3 = _ from na]
  simp only [Option.bind_some]
  rw [show logic_Is.f a0 a1 a2 a3 a4 = some (isT a0 a1 a2 a4 a3) from rfl]
  simp only [Option.bind_some]
  by_cases h : isT a0 a1 a2 a4 a3 = true
  · rw [if_pos h, if_pos h, if_pos (by decide)]
    rw [show calc_scope_eval.f 199 _ (rd_T31 ifsKids 1).f0 (rd_T31 ifsKids 1).f1.f0 (rd_T31 ifsKids 1).f1.f1.f0 (rd_T31 ifsKids 1).f1.f1.f1 (rd_T31 ifsKids 1).f1.f2 (rd_T31 ifsKids 1).f1.f3 (rd_T31 ifsKids 1).f2 (rd_T31 ifsKids 1).f3 = _ from nb]
    rfl
  · rw [if_neg h, if_neg h, if_pos (by decide)]
    rw [show calc_scope_eval.f 199 _ (rd_T31 ifsKids 2).f0 (rd_T31 ifsKids 2).f1.f0 (rd_T31 ifsKids 2).f1.f1.f0 (rd_T31 ifsKids 2).f1.f1.f1 (rd_T31 ifsKids 2).f1.f2 (rd_T31 ifsKids 2).f1.f3 (rd_T31 ifsKids 2).f2 (rd_T31 ifsKids 2).f3 = _ from nc]
    rfl
theorem ifs_eval : calc_Eval.f 200 17 0 0 0 ⟨#[]⟩ 0 ⟨#[]⟩ ifsKids (ifsList a0 a1 a2 a4 b0 b1 b2 b4 c0 c1 c2 c4 a3 b3 c3) =
    if (vsd a0 a1 a2 a3 a4 && vsd b0 b1 b2 b3 b4 && vsd c0 c1 c2 c3 c4) = true then (if isT a0 a1 a2 a4 a3 = true then some (b0, b1, b2, b3, b4, 0) else some (c0, c1, c2, c3, c4, 0)) else some (0, 0, 0, ⟨#[]⟩, 0, 2) := by
  rw [eval_f (by decide) (by show 3 < _; decide) ifs_sound, if_pos rfl]
  have e : (ifsList a0 a1 a2 a4 b0 b1 b2 b4 c0 c1 c2 c4 a3 b3 c3).any uns = !(vsd a0 a1 a2 a3 a4 && vsd b0 b1 b2 b3 b4 && vsd c0 c1 c2 c3 c4) := by
    simp only [ifsList, List.any_cons, List.any_nil, uns]
    cases vsd a0 a1 a2 a3 a4 <;> cases vsd b0 b1 b2 b3 b4 <;> cases vsd c0 c1 c2 c3 c4 <;> rfl
  rw [e]
  by_cases h : (vsd a0 a1 a2 a3 a4 && vsd b0 b1 b2 b3 b4 && vsd c0 c1 c2 c3 c4) = true
  · rw [if_neg (by simp [h]), if_pos h, ifs_names]
    simp only [Option.bind_some]
    rw [if_pos (by decide), if_pos (by kernel_rfl), ifs_val]
    split <;> rfl
  · rw [if_pos (by simp only [Bool.not_eq_true] at h; rw [h]; rfl), if_neg h]
end
theorem calcIfs_true (a0 a1 a2 : Int) (a3 : ByteArray) (a4 b0 b1 b2 : Int) (b3 : ByteArray) (b4 c0 c1 c2 : Int) (c3 : ByteArray) (c4 : Int) : soffitlaw11_CalcIfs.f 5000 a0 a1 a2 a3 a4 b0 b1 b2 b3 b4 c0 c1 c2 c3 c4 = some true := by
  unfold soffitlaw11_CalcIfs.f
  refine Option.bind_eq_some_iff.mpr ⟨_, up (fun k => expr_Parse.mono _ k) (by decide) ifs_parse, ?_⟩
  obtain ⟨v, hv⟩ : ∃ v, calc_Eval.f 200 17 0 0 0 ⟨#[]⟩ 0 ⟨#[]⟩ ifsKids (ifsList a0 a1 a2 a4 b0 b1 b2 b4 c0 c1 c2 c4 a3 b3 c3) = some v := by
    rw [ifs_eval]; split
    · split <;> exact ⟨_, rfl⟩
    · exact ⟨_, rfl⟩
  refine Option.bind_eq_some_iff.mpr ⟨v, up (fun k => calc_Eval.mono _ _ _ _ _ _ _ _ _ k) (by decide) hv, ?_⟩
  refine Option.bind_eq_some_iff.mpr ⟨true, awake_f (by decide), ?_⟩
  rw [if_pos rfl]
  show soffitlaw11_CalcIfs.j0 5000 v.2.2.2.2.2 false _ _ _ _ _ _ _ _ _ _ _ _ _ _ _ _ _ _ _ _ = _
  rw [ifs_eval] at hv
  rw [show (5000 : Nat) = 4999 + 1 from rfl, soffitlaw11_CalcIfs.j0, if_neg (by simp), refvsound_f (by decide), refvsound_f (by decide), refvsound_f (by decide)]
  simp only [Option.bind_some]
  have j1 : ∀ m, soffitlaw11_CalcIfs.j1 4999 v.2.2.2.2.2 m a0 a1 a2 a3 a4 b0 b1 b2 b3 b4 c0 c1 c2 c3 c4 v.1 v.2.1 v.2.2.1 v.2.2.2.1 v.2.2.2.2.1 =
      if m = true then (if v.2.2.2.2.2 = 2 then (some (v.1 == 0 && ((v.2.1 == 0 && (v.2.2.1 == 0)) && (v.2.2.2.1.toList == ([] : List UInt8) && (v.2.2.2.2.1 == 0))))) else (some false)) else
      (if isT a0 a1 a2 a4 a3 = true then (if v.2.2.2.2.2 = 0 then (some (v.1 == b0 && ((v.2.1 == b1 && (v.2.2.1 == b2)) && (v.2.2.2.1.toList == b3.toList && (v.2.2.2.2.1 == b4))))) else (some false)) else (if v.2.2.2.2.2 = 0 then (some (v.1 == c0 && ((v.2.1 == c1 && (v.2.2.1 == c2)) && (v.2.2.2.1.toList == c3.toList && (v.2.2.2.2.1 == c4))))) else (some false))) := fun m => by
    rw [show (4999 : Nat) = 4998 + 1 from rfl, soffitlaw11_CalcIfs.j1]; rfl
  simp only [j1]
  cases ha : vsd a0 a1 a2 a3 a4 <;> cases hb : vsd b0 b1 b2 b3 b4 <;> cases hc : vsd c0 c1 c2 c3 c4 <;> simp only [ha, hb, hc, Bool.and_self, Bool.and_false, Bool.false_and, Bool.false_eq_true, if_false, if_true, Bool.not_true, Bool.not_false] at hv ⊢
  all_goals first
    | (obtain rfl := Option.some.inj hv; have nl : ((⟨#[]⟩ : ByteArray).toList == ([] : List UInt8)) = true := by decide +kernel
       simp only [nl]; rfl)
    | (by_cases h : isT a0 a1 a2 a4 a3 = true
       · rw [if_pos h] at hv ⊢; obtain rfl := Option.some.inj hv; simp
       · rw [if_neg h] at hv ⊢; obtain rfl := Option.some.inj hv; simp)
end Go.Proofs.YtgkemhgihbfmmaaGreatDoor.PA
end
