/- Part 23 of the proof for CalcThree: functions of the program as plain Lean functions, their calls, and what they come to. -/
import Derived.Test.YtgkemhgihbfmmaaGreatDoorCalcThreeK21
import Derived.Test.YtgkemhgihbfmmaaGreatDoorCalcThreeK18
import Derived.Test.YtgkemhgihbfmmaaGreatDoorCalcThreeK17
set_option linter.unusedVariables false
set_option linter.unusedSimpArgs false
section
namespace Go.Proofs.YtgkemhgihbfmmaaGreatDoor.PA
open Go.RowKit Go.Proofs.YtgkemhgihbfmmaaGreatDoorW.PrintWords Go.Proofs.YtgkemhgihbfmmaaGreatDoorW.PrintLast Go.Proofs.YtgkemhgihbfmmaaGreatDoorW.PrintMore
theorem bt_nat (s : ByteArray) (p : Nat) (h : p < s.size) : bt s (p : Int) = (U.bt s p : Int) := by
  have : (p : Int).toNat = p := Int.toNat_natCast p
  unfold bt U.bt
  rw [dif_pos (by rw [this]; exact h)]
  simp only [this]
  rw [show s.get! p = s[p] from by first | exact dif_pos h | (unfold ByteArray.get!; rw [dif_pos h]; rfl) | simp [h]]
theorem bt_lt (s : ByteArray) (p : Nat) : U.bt s p < 256 := (s.get! p).toNat_lt
def endOf (k : Nat) (s : ByteArray) (p n : Int) (r least : Nat) : Option Bool := if least ≤ r ∧ U.sgn r = true then soffitref04_good.l0 k s (wrap64 (p + n)) else some false
theorem l1_end (k : Nat) (s : ByteArray) (p n : Int) (r least : Nat) (i : Int) (hi : ¬ i < n) : soffitref04_good.l1 (k + 2) s p n (r : Int) (least : Int) i = endOf k s p n r least := by
  rw [soffitref04_good.l1, if_neg hi]
  unfold endOf
  have jt : soffitref04_good.j6 (k + 1) s p n (!true) = soffitref04_good.l0 k s (wrap64 (p + n)) := by rw [soffitref04_good.j6, if_neg (by simp)]
  have jf : soffitref04_good.j6 (k + 1) s p n (!false) = some false := by rw [soffitref04_good.j6]; rfl
  have jd : soffitref04_good.j6 (k + 1) s p n (!(decide ((r : Int) ≤ 1114111))) = if (r : Int) ≤ 1114111 then soffitref04_good.l0 k s (wrap64 (p + n)) else some false := by
    rw [soffitref04_good.j6]; by_cases q : (r : Int) ≤ 1114111 <;> simp [q]
  by_cases h : least ≤ r
  · rw [if_neg (by omega)]
    simp only [jt, jf, jd]
    by_cases g : U.sgn r = true
    · have e : (if least ≤ r ∧ U.sgn r = true then soffitref04_good.l0 k s (wrap64 (p + n)) else some false) = soffitref04_good.l0 k s (wrap64 (p + n)) := if_pos ⟨h, g⟩
      rw [e]
      simp only [U.sgn, decide_eq_true_eq] at g
      repeat' split
      all_goals first | rfl | (exfalso; omega)
    · have e : (if least ≤ r ∧ U.sgn r = true then soffitref04_good.l0 k s (wrap64 (p + n)) else some false) = some false := if_neg (fun x => g x.2)
      rw [e]
      simp only [U.sgn, decide_eq_true_eq] at g
      repeat' split
      all_goals first | rfl | (exfalso; omega)
  · rw [if_pos (by omega), if_neg (fun x => h x.1), soffitref04_good.j6, if_pos rfl]
theorem l1_step (k : Nat) (s : ByteArray) (p i n : Nat) (r : Nat) (least : Int) (hi : i < n) (hn : n ≤ 8) (hp : p < 1000000000) (hr : r < 1000000000) : soffitref04_good.l1 (k + 2) s (p : Int) (n : Int) (r : Int) least (i : Int) =
    if U.ct s (p + i) then soffitref04_good.l1 k s (p : Int) (n : Int) ((r * 64 + (U.bt s (p + i) - 0x80) : Nat) : Int) least ((i + 1 : Nat) : Int) else some false := by
  have hw : wrap64 ((p : Int) + (i : Int)) = ((p + i : Nat) : Int) := by rw [w64 (by omega) (by omega)]; omega
  rw [soffitref04_good.l1, if_pos (by omega)]
  simp only [hw]
  by_cases h : p + i < s.size
  · rw [if_neg (by omega), if_pos (by omega), if_pos (by omega), bt_nat s (p + i) h]
    have hb := bt_lt s (p + i)
    by_cases h1 : U.bt s (p + i) < 128
    · rw [if_pos (by omega), soffitref04_good.j5, if_pos rfl, if_neg]; rintro ⟨_, x, _⟩; omega
    · rw [if_neg (by omega)]
      by_cases h2 : 192 ≤ U.bt s (p + i)
      · rw [show decide (((U.bt s (p + i) : Nat) : Int) ≥ 192) = true by simp; omega, soffitref04_good.j5, if_pos rfl, if_neg]; rintro ⟨_, _, x⟩; omega
      · rw [show decide (((U.bt s (p + i) : Nat) : Int) ≥ 192) = false by simp; omega, soffitref04_good.j5, if_neg (by simp)]
        simp only [hw]
        rw [if_pos (by omega), if_pos (by omega), bt_nat s (p + i) h, if_pos (show U.ct s (p + i) from ⟨h, by omega, by omega⟩)]
        rw [w64 (x := (r : Int) * 64) (by omega) (by omega), w64 (x := ((U.bt s (p + i) : Nat) : Int)) (by omega) (by omega), w64 (x := (r : Int) * 64 + ((U.bt s (p + i) : Nat) : Int)) (by omega) (by omega), w64 (x := (r : Int) * 64 + ((U.bt s (p + i) : Nat) : Int) - 128) (by omega) (by omega), w64 (x := (i : Int) + 1) (by omega) (by omega)]
        congr 1; omega
  · rw [if_pos (by omega), soffitref04_good.j5, if_pos rfl, if_neg]; rintro ⟨x, _⟩; omega
theorem good_step (k : Nat) (s : ByteArray) (p : Nat) (h : p < s.size) (hs : s.size < 100000) : ∃ k', k ≤ k' ∧ soffitref04_good.l0 (k + 16) s (p : Int) = match U.look s p with
    | none => some false
    | some n => soffitref04_good.l0 k' s ((p + n : Nat) : Int) := by
  have hb := bt_lt s p
  have hw : ∀ n : Nat, n < 10 → wrap64 ((p : Int) + (n : Int)) = ((p + n : Nat) : Int) := fun n hn => by rw [w64 (by omega) (by omega)]; omega
  rw [soffitref04_good.l0, if_pos (by omega), if_pos (by omega), bt_nat s p h, w64 (by omega) (by omega)]
  unfold U.look
  by_cases g0 : U.bt s p < 0x80
  · rw [if_pos (by omega), if_pos g0, soffitref04_good.j3]
    refine ⟨k + 12, by omega, ?_⟩
    have := l1_end (k + 12) s p 1 (U.bt s p) 0 1 (by omega)
    rw [show (((0 : Nat) : Int)) = 0 from rfl] at this
    rw [show k + 14 = k + 12 + 2 from rfl, this]
    unfold endOf
    rw [show ((1 : Int)) = ((1 : Nat) : Int) from rfl, hw 1 (by omega)]
    by_cases g : U.sgn (U.bt s p) = true <;> simp [g]
  rw [if_neg (by omega), if_neg g0]
  have j1f : ∀ (K : Nat) (x : Int), soffitref04_good.j1 (K + 1) s (p : Int) x false = if x ≥ 224 then soffitref04_good.j2 K s p x (decide (x < 240)) else soffitref04_good.j2 K s p x false := fun K x => by rw [soffitref04_good.j1, if_neg (by simp)]
  have j1t : ∀ (K : Nat) (x : Int), soffitref04_good.j1 (K + 1) s (p : Int) x true = soffitref04_good.j3 K s p 2 (wrap64 (x - 192)) 128 := fun K x => by rw [soffitref04_good.j1, if_pos rfl]
  have j2f : ∀ (K : Nat) (x : Int), soffitref04_good.j2 (K + 1) s (p : Int) x false = if x ≥ 240 then if x < 248 then soffitref04_good.j3 K s p 4 (wrap64 (x - 240)) 65536 else some false else some false := fun K x => by rw [soffitref04_good.j2, if_neg (by simp)]
  have j2t : ∀ (K : Nat) (x : Int), soffitref04_good.j2 (K + 1) s (p : Int) x true = soffitref04_good.j3 K s p 3 (wrap64 (x - 224)) 2048 := fun K x => by rw [soffitref04_good.j2, if_pos rfl]
  by_cases g1 : 0xC0 ≤ U.bt s p
  · rw [if_pos (show ((U.bt s p : Nat) : Int) ≥ 192 from by omega)]
    by_cases g2 : U.bt s p < 0xE0
    · rw [show decide (((U.bt s p : Nat) : Int) < 224) = true by simp; omega, j1t, if_pos ⟨g1, g2⟩, soffitref04_good.j3, w64 (by omega) (by omega)]
      refine ⟨k + 9, by omega, ?_⟩
      have e : ((U.bt s p : Nat) : Int) - 192 = ((U.bt s p - 0xC0 : Nat) : Int) := by omega
      have st := l1_step (k + 11) s p 1 2 (U.bt s p - 0xC0) 128 (by omega) (by omega) (by omega) (by omega)
      rw [e, show (1 : Int) = ((1 : Nat) : Int) from rfl, show (2 : Int) = ((2 : Nat) : Int) from rfl, show k + 13 = k + 11 + 2 from rfl, st]
      by_cases c1 : U.ct s (p + 1)
      · rw [if_pos c1]
        have := l1_end (k + 9) s p 2 ((U.bt s p - 0xC0) * 64 + (U.bt s (p + 1) - 0x80)) 128 2 (by omega)
        refine Eq.trans this ?_
        unfold endOf
        rw [show ((2 : Int)) = ((2 : Nat) : Int) from rfl, hw 2 (by omega)]
        simp only [c1, true_and]
        split <;> simp_all
      · simp [c1]
    · rw [show decide (((U.bt s p : Nat) : Int) < 224) = false by simp; omega, j1f, if_neg (show ¬ (0xC0 ≤ U.bt s p ∧ U.bt s p < 0xE0) from fun x => g2 x.2), if_pos (show ((U.bt s p : Nat) : Int) ≥ 224 from by omega)]
      by_cases g3 : U.bt s p < 0xF0
      · rw [show decide (((U.bt s p : Nat) : Int) < 240) = true by simp; omega, j2t, if_pos (show 0xE0 ≤ U.bt s p ∧ U.bt s p < 0xF0 from ⟨by omega, g3⟩), soffitref04_good.j3, w64 (by omega) (by omega)]
        refine ⟨k + 6, by omega, ?_⟩
        have e : ((U.bt s p : Nat) : Int) - 224 = ((U.bt s p - 0xE0 : Nat) : Int) := by omega
        have b1 := bt_lt s (p + 1)
        have st := l1_step (k + 10) s p 1 3 (U.bt s p - 0xE0) 2048 (by omega) (by omega) (by omega) (by omega)
        have st2 := l1_step (k + 8) s p 2 3 ((U.bt s p - 0xE0) * 64 + (U.bt s (p + 1) - 0x80)) 2048 (by omega) (by omega) (by omega) (by omega)
        rw [e, show (1 : Int) = ((1 : Nat) : Int) from rfl, show (3 : Int) = ((3 : Nat) : Int) from rfl, show k + 12 = k + 10 + 2 from rfl, st]
        by_cases c1 : U.ct s (p + 1)
        · rw [if_pos c1, show k + 10 = k + 8 + 2 from rfl, show (1 + 1) = 2 from rfl, st2]
          by_cases c2 : U.ct s (p + 2)
          · rw [if_pos c2]
            have := l1_end (k + 6) s p 3 (((U.bt s p - 0xE0) * 64 + (U.bt s (p + 1) - 0x80)) * 64 + (U.bt s (p + 2) - 0x80)) 2048 3 (by omega)
            refine Eq.trans this ?_
            unfold endOf
            rw [show ((3 : Int)) = ((3 : Nat) : Int) from rfl, hw 3 (by omega)]
            simp only [c1, c2, true_and]
            split <;> simp_all
          · simp [c2]
        · simp [c1]
      · rw [show decide (((U.bt s p : Nat) : Int) < 240) = false by simp; omega, j2f, if_neg (show ¬ (0xE0 ≤ U.bt s p ∧ U.bt s p < 0xF0) from fun x => g3 x.2), if_pos (show ((U.bt s p : Nat) : Int) ≥ 240 from by omega)]
        by_cases g4 : U.bt s p < 0xF8
        · rw [if_pos (show ((U.bt s p : Nat) : Int) < 248 from by omega), if_pos (show 0xF0 ≤ U.bt s p ∧ U.bt s p < 0xF8 from ⟨by omega, g4⟩), soffitref04_good.j3, w64 (by omega) (by omega)]
          refine ⟨k + 4, by omega, ?_⟩
          have e : ((U.bt s p : Nat) : Int) - 240 = ((U.bt s p - 0xF0 : Nat) : Int) := by omega
          have b1 := bt_lt s (p + 1)
          have b2 := bt_lt s (p + 2)
          have st := l1_step (k + 10) s p 1 4 (U.bt s p - 0xF0) 65536 (by omega) (by omega) (by omega) (by omega)
          have st2 := l1_step (k + 8) s p 2 4 ((U.bt s p - 0xF0) * 64 + (U.bt s (p + 1) - 0x80)) 65536 (by omega) (by omega) (by omega) (by omega)
          have st3 := l1_step (k + 6) s p 3 4 (((U.bt s p - 0xF0) * 64 + (U.bt s (p + 1) - 0x80)) * 64 + (U.bt s (p + 2) - 0x80)) 65536 (by omega) (by omega) (by omega) (by omega)
          rw [e, show (1 : Int) = ((1 : Nat) : Int) from rfl, show (4 : Int) = ((4 : Nat) : Int) from rfl, show k + 12 = k + 10 + 2 from rfl, st]
          by_cases c1 : U.ct s (p + 1)
          · rw [if_pos c1, show k + 10 = k + 8 + 2 from rfl, show (1 + 1) = 2 from rfl, st2]
            by_cases c2 : U.ct s (p + 2)
            · rw [if_pos c2, show k + 8 = k + 6 + 2 from rfl, show (2 + 1) = 3 from rfl, st3]
              by_cases c3 : U.ct s (p + 3)
              · rw [if_pos c3]
                have := l1_end (k + 4) s p 4 ((((U.bt s p - 0xF0) * 64 + (U.bt s (p + 1) - 0x80)) * 64 + (U.bt s (p + 2) - 0x80)) * 64 + (U.bt s (p + 3) - 0x80)) 65536 4 (by omega)
                refine Eq.trans this ?_
                unfold endOf
                rw [show ((4 : Int)) = ((4 : Nat) : Int) from rfl, hw 4 (by omega)]
                simp only [c1, c2, c3, true_and]
                split <;> simp_all
              · simp [c3]
            · simp [c2]
          · simp [c1]
        · rw [if_neg (show ¬ ((U.bt s p : Nat) : Int) < 248 from by omega), if_neg (show ¬ (0xF0 ≤ U.bt s p ∧ U.bt s p < 0xF8) from fun x => g4 x.2)]; exact ⟨k, by omega, rfl⟩
  · rw [if_neg (show ¬ ((U.bt s p : Nat) : Int) ≥ 192 from by omega), if_neg (show ¬ (0xC0 ≤ U.bt s p ∧ U.bt s p < 0xE0) from fun x => g1 x.1), if_neg (show ¬ (0xE0 ≤ U.bt s p ∧ U.bt s p < 0xF0) from by omega), if_neg (show ¬ (0xF0 ≤ U.bt s p ∧ U.bt s p < 0xF8) from by omega), j1f, if_neg (show ¬ ((U.bt s p : Nat) : Int) ≥ 224 from by omega), j2f, if_neg (show ¬ ((U.bt s p : Nat) : Int) ≥ 240 from by omega)]; exact ⟨k, by omega, rfl⟩
theorem sign_sgn (r : Nat) : (chars_sign.f (r : Int)).getD false = U.sgn r := by
  unfold chars_sign.f
  by_cases g : U.sgn r = true
  · rw [g]; simp only [U.sgn, decide_eq_true_eq] at g
    repeat' split
    all_goals first | rfl | (exfalso; omega) | (simp only [Option.getD_some, decide_eq_true_eq]; omega)
  · simp only [Bool.not_eq_true] at g
    rw [g]; simp only [U.sgn, decide_eq_false_iff_not] at g
    repeat' split
    all_goals first | rfl | (exfalso; omega) | (simp only [Option.getD_some, decide_eq_false_iff_not]; omega)
theorem badAt_bad (s : ByteArray) (p : Nat) : badAt s p = U.bad s p := by
  unfold badAt U.bad; rw [sign_sgn]
theorem good_l0 (s : ByteArray) (hs : s.size < 100000) : ∀ (f p k : Nat), s.size ≤ p + f → 16 * f < k → soffitref04_good.l0 k s (p : Int) = some (decide (badFrom s f p < 0))
  | 0, p, k, h, hk => by
    obtain ⟨k, rfl⟩ := succ_of (show 0 < k by omega)
    rw [soffitref04_good.l0, if_neg (by omega)]; rfl
  | f + 1, p, k, h, hk => by
    by_cases hp : p < s.size
    · obtain ⟨m, rfl⟩ : ∃ m, k = m + 16 := ⟨k - 16, by omega⟩
      obtain ⟨k', hk', e⟩ := good_step m s p hp hs
      rw [e, U.look_eq, badFrom, if_pos hp, badAt_bad]
      by_cases hb : U.bad s p = true
      · rw [if_pos hb, if_pos hb]; simp
      · rw [if_neg hb, if_neg hb]
        have hw := Lib.width_pos s p
        exact good_l0 s hs f (p + (Utf8.decode s p).2) k' (by omega) (by omega)
    · obtain ⟨k, rfl⟩ := succ_of (show 0 < k by omega)
      rw [soffitref04_good.l0, if_neg (by omega), badFrom, if_neg hp]; rfl
theorem good_f {k : Nat} {s : ByteArray} (hs : s.size ≤ 256) (hk : 4200 ≤ k) : soffitref04_good.f k s = some (decide (badFrom s s.size 0 < 0)) :=
  good_l0 s (by omega) s.size 0 k (by omega) (by omega)
end Go.Proofs.YtgkemhgihbfmmaaGreatDoor.PA
end
section
namespace Go.Proofs.YtgkemhgihbfmmaaGreatDoor.PA
open Go.RowKit Go.Proofs.YtgkemhgihbfmmaaGreatDoorW.PrintWords Go.Proofs.YtgkemhgihbfmmaaGreatDoorW.PrintLast Go.Proofs.YtgkemhgihbfmmaaGreatDoorW.PrintMore
open Go.Proofs.YtgkemhgihbfmmaaGreatDoor.M
theorem and1 (x : Int) : Go.bits .and .i64 x 1 = 0 ∨ Go.bits .and .i64 x 1 = 1 := by
  have e : Go.bits .and .i64 x 1 = IntKind.i64.wrap (((BitVec.ofInt 64 x &&& BitVec.ofInt 64 1).toNat : Nat) : Int) := rfl
  have h1 : (BitVec.ofInt 64 (1 : Int)).toNat = 1 := by decide
  rw [e, BitVec.toNat_and, h1, Nat.and_one_is_mod]
  have : (BitVec.ofInt 64 x).toNat % 2 = 0 ∨ (BitVec.ofInt 64 x).toNat % 2 = 1 := by omega
  rcases this with h | h <;> rw [h] <;> decide
theorem and1_eq (x : Int) : (x == Go.bits .and .i64 x 1) = decide (x = 0 ∨ x = 1) := by
  by_cases h0 : x = 0
  · subst h0; decide
  · by_cases h1 : x = 1
    · subst h1; decide
    · rcases and1 x with h | h <;> rw [h] <;> simp [h0, h1]
def vsd (a n s : Int) (t : ByteArray) (x : Int) : Bool :=
  if a = 0 then n == 0 && s == 0 && t.toList == ([] : List UInt8) && x == 0
  else if a = 1 then decide (Snd n s) && t.toList == ([] : List UInt8) && x == 0
  else if a = 2 then n == 0 && s == 0 && x == 0 && decide (t.size ≤ 256) && decide (badFrom t t.size 0 < 0)
  else if a = 3 then n == 0 && s == 0 && t.toList == ([] : List UInt8) && decide (x = 0 ∨ x = 1)
  else if a = 4 then n == 0 && s == 0 && t.toList == ([] : List UInt8) && decide (0 ≤ x ∧ x ≤ 3652058)
  else false
theorem vsound_f {k : Nat} (hk : 10 ≤ k) (a n s : Int) (t : ByteArray) (x : Int) : value_Sound.f k a n s t x = some (vsd a n s t x) := by
  unfold value_Sound.f vsd
  by_cases h0 : a = 0
  · rw [if_pos h0, if_pos h0]; simp only [Bool.and_assoc]
  rw [if_neg h0, if_neg h0]
  by_cases h1 : a = 1
  · rw [if_pos h1, if_pos h1, sound_f hk]
    simp only [Option.bind_some]
    by_cases g : (t.toList == ([] : List UInt8) && (x == 0)) = true
    · rw [if_pos g]; simp only [Bool.and_assoc, g, Bool.and_true]
    · rw [if_neg g]; simp only [Bool.not_eq_true] at g; simp only [Bool.and_assoc, g, Bool.and_false]
  rw [if_neg h1, if_neg h1]
  by_cases h2 : a = 2
  · rw [if_pos h2, if_pos h2]
    by_cases g : ((n == 0 && (s == 0)) && (x == 0)) = true
    · rw [if_pos g, g]
      by_cases q : t.size ≤ 256
      · rw [if_pos (by omega)]
        unfold chars_Good.f chars_Bad.f
        rw [if_pos (by omega)]
        simp [q]
      · rw [if_neg (by omega)]; simp [q]
    · rw [if_neg g]; simp only [Bool.not_eq_true] at g; simp [g]
  rw [if_neg h2, if_neg h2]
  by_cases h3 : a = 3
  · rw [if_pos h3, if_pos h3, and1_eq]; simp only [Bool.and_assoc]
  rw [if_neg h3, if_neg h3]
  by_cases h4 : a = 4
  · rw [if_pos h4, if_pos h4]
    have : (x == mx 0 (mn x 3652058)) = decide (0 ≤ x ∧ x ≤ 3652058) := by
      unfold mx mn
      rw [Bool.eq_iff_iff]; simp only [beq_iff_eq, decide_eq_true_eq]
      split <;> split <;> omega
    rw [this]; simp only [Bool.and_assoc]
  · rw [if_neg h4, if_neg h4]
theorem refvsound_f {k : Nat} (hk : 4300 ≤ k) (a n s : Int) (t : ByteArray) (x : Int) : soffitref04_Sound.f k a n s t x = some (vsd a n s t x) := by
  obtain ⟨k, rfl⟩ : ∃ m, k = m + 1 := ⟨k - 1, by omega⟩
  have e : soffitref04_Sound.f (k + 1) a n s t x = soffitref04_Sound.j0 (k + 1) (n == 0 && s == 0) a n s t x := by
    unfold soffitref04_Sound.f
    by_cases h : n = 0
    · simp [h]
    · rw [if_neg h, show (n == 0) = false from beq_eq_false_iff_ne.mpr h]; rfl
  rw [e, soffitref04_Sound.j0]
  unfold vsd
  obtain ⟨d, hd⟩ : ∃ d, (n == 0 && s == 0) = d := ⟨_, rfl⟩
  obtain ⟨u, hu⟩ : ∃ u, (t.toList == ([] : List UInt8)) = u := ⟨_, rfl⟩
  have hu' : (t.toList = ([] : List UInt8)) = (u = true) := by rw [← hu]; simp
  simp only [hd, hu, hu']
  rw [refsound_f (by omega)]
  by_cases h0 : a = 0
  · rw [if_pos h0, if_pos h0]; cases d <;> cases u <;> simp
  rw [if_neg h0, if_neg h0]
  by_cases h1 : a = 1
  · rw [if_pos h1, if_pos h1]; simp only [Option.bind_some]
    by_cases g : Snd n s <;> cases u <;> simp [g]
  rw [if_neg h1, if_neg h1]
  by_cases h2 : a = 2
  · rw [if_pos h2, if_pos h2]
    by_cases q : t.size ≤ 256
    · rw [if_pos (show (t.size : Int) ≤ 256 by omega), good_f q (by omega)]
      by_cases g : x = 0 <;> cases d <;> simp [q, g]
    · rw [if_neg (show ¬ (t.size : Int) ≤ 256 by omega)]
      by_cases g : x = 0 <;> cases d <;> simp [q, g]
  rw [if_neg h2, if_neg h2]
  by_cases h3 : a = 3
  · rw [if_pos h3, if_pos h3]
    by_cases g : x = 0 <;> cases d <;> cases u <;> simp [g]
    exact Bool.beq_eq_decide_eq _ _
  rw [if_neg h3, if_neg h3]
  by_cases h4 : a = 4
  · rw [if_pos h4, if_pos h4]
    by_cases g : 0 ≤ x <;> cases d <;> cases u <;> simp [g]
  · rw [if_neg h4, if_neg h4]
end Go.Proofs.YtgkemhgihbfmmaaGreatDoor.PA
end
section
namespace Go.Proofs.YtgkemhgihbfmmaaGreatDoor.PA
open Go.RowKit Go.Proofs.YtgkemhgihbfmmaaGreatDoorW.PrintWords Go.Proofs.YtgkemhgihbfmmaaGreatDoorW.PrintLast Go.Proofs.YtgkemhgihbfmmaaGreatDoorW.PrintMore
theorem up {α : Type} {f : Nat → Option α} (h : ∀ k, LeO (f k) (f (k + 1))) {k k' : Nat} (hk : k ≤ k') {r : α} (e : f k = some r) : f k' = some r := by
  induction k' with
  | zero => obtain rfl : k = 0 := by omega
            exact e
  | succ m ih =>
    by_cases g : k = m + 1
    · subst g; exact e
    · exact h m r (ih (by omega))
theorem mem_compact {z : List UInt8} {zs : List (List UInt8)} : z ∈ Lib.compact zs ↔ z ∈ zs := by
  unfold Lib.compact Lib.compactUpTo
  simp only [List.mem_map, List.mem_filter, List.mem_range]
  constructor
  · rintro ⟨j, ⟨hj, _⟩, rfl⟩
    rw [getElem!_pos zs.toArray j (by simpa using hj)]
    simp
  · intro h
    obtain ⟨j, hj, e⟩ := List.getElem_of_mem h
    induction j with
    | zero => exact ⟨0, ⟨hj, by simp [Lib.keeps]⟩, by rw [getElem!_pos zs.toArray 0 (by simpa using hj)]; simpa using e⟩
    | succ j ih =>
      by_cases g : Lib.keeps zs.toArray (j + 1) = true
      · exact ⟨j + 1, ⟨hj, g⟩, by rw [getElem!_pos zs.toArray (j + 1) (by simpa using hj)]; simpa using e⟩
      · refine ih (by omega) ?_
        simp only [Lib.keeps] at g
        simp at g
        have h1 : zs.toArray[j]! = zs[j]'(by omega) := by rw [getElem!_pos zs.toArray j (by simp; omega)]; simp
        have h2 : zs.toArray[j + 1]! = zs[j + 1] := by rw [getElem!_pos zs.toArray (j + 1) (by simpa using hj)]; simp
        simp_all
def has (l : List S27) (n : ByteArray) : Bool := l.any fun y => y.f0.toList == n.toList
theorem fnd_any (q : S27 → Bool) : ∀ (l : List S27) (i : Nat), ∃ r, fnd (fun y => some (q y)) l i = some r ∧ decide (0 ≤ r) = l.any q
  | [], i => ⟨-1, rfl, rfl⟩
  | y :: t, i => by
    simp only [fnd, Option.bind_some, List.any_cons]
    by_cases h : q y = true
    · exact ⟨i, by rw [if_pos h], by simp [h]⟩
    · obtain ⟨r, e, g⟩ := fnd_any q t (i + 1)
      exact ⟨r, by rw [if_neg h, e], by simp [h, g]⟩
theorem allHave_f (l : List S27) : ∀ ns, allHave l ns = some (ns.all (has l))
  | [] => rfl
  | n :: t => by
    obtain ⟨r, e, g⟩ := fnd_any (fun y => y.f0.toList == n.toList) l 0
    simp only [allHave, e, Option.bind_some, List.all_cons]
    have g' : decide (0 ≤ r) = has l n := g
    by_cases h : 0 ≤ r
    · rw [if_pos h, allHave_f l t, ← g']; simp [h]
    · rw [if_neg h, ← g']; simp [h]
theorem toL (b : ByteArray) : (⟨b.data.toList.toArray⟩ : ByteArray) = b := by obtain ⟨⟨l⟩⟩ := b; rfl
theorem names_all (l : List S27) (r : List ByteArray) : (((sortNames r).map fun b => (⟨b.toArray⟩ : ByteArray)).all (has l)) = r.all (has l) := by
  rw [Bool.eq_iff_iff]
  simp only [List.all_eq_true, List.mem_map]
  have m : ∀ z, z ∈ sortNames r ↔ ∃ b ∈ r, b.data.toList = z := by
    intro z
    unfold sortNames
    rw [mem_compact, List.mem_mergeSort, List.mem_map]
  constructor
  · intro h b hb
    exact h b ⟨b.data.toList, (m _).mpr ⟨b, hb, rfl⟩, toL b⟩
  · rintro h _ ⟨z, hz, rfl⟩
    obtain ⟨b, hb, rfl⟩ := (m z).mp hz
    rw [toL]; exact h b hb
def uns (y : S27) : Bool := !vsd y.f1.f0 y.f1.f1.f0 y.f1.f1.f1 y.f1.f2 y.f1.f3
theorem unsound_f {k : Nat} (hk : 10 ≤ k) : unsound27 k = fun y => some (uns y) := by
  funext y
  unfold unsound27 uns
  rw [vsound_f hk]; rfl
theorem eval_f {k : Nat} (hk : 10 ≤ k) {a0 a1 a2 a3 : Int} {a4 : ByteArray} {a5 : Int} {a6 : ByteArray} {l7 : List S31} {l1 : List S27} (hl : l1.length < 4611686018427387904) {ok : Bool} (hs : expr_Sound.f k a0 a1 a2 a3 a4 a5 a6 l7 = some ok) :
    calc_Eval.f k a0 a1 a2 a3 a4 a5 a6 l7 l1 = if ok = true then if l1.any uns = true then some (0, 0, 0, ⟨#[]⟩, 0, 2) else (expr_names.f k a0 a1 a2 a3 a4 a5 a6 l7).bind fun r => if r.length < 4611686018427387904 then
      if r.all (has l1) = true then (calc_scope_eval.f k l1 a0 a1 a2 a3 a4 a5 a6 l7).bind fun v => some (v.1, v.2.1, v.2.2.1, v.2.2.2.1, v.2.2.2.2, 0) else some (0, 0, 0, ⟨#[]⟩, 0, 7) else none else some (0, 0, 0, ⟨#[]⟩, 0, 2) := by
  unfold calc_Eval.f expr_Names.f
  rw [hs]
  simp only [Option.bind_some]
  by_cases ho : ok = true
  · rw [if_pos ho, if_pos ho, if_pos hl, if_pos ho, unsound_f hk]
    obtain ⟨r, e, g⟩ := fnd_any uns l1 0
    rw [e]
    simp only [Option.bind_some]
    by_cases h : 0 ≤ r
    · rw [if_pos h, if_pos (by rw [← g]; simpa using h)]
    · rw [if_neg h, if_neg (by rw [← g]; simpa using h)]
      cases hn : expr_names.f k a0 a1 a2 a3 a4 a5 a6 l7 with
      | none => rfl
      | some ns =>
        simp only [Option.bind_some]
        by_cases hb : ns.length < 4611686018427387904
        · rw [if_pos hb, if_pos hb]
          simp only [Option.bind_some]
          rw [allHave_f, names_all]
          rfl
        · rw [if_neg hb, if_neg hb]; rfl
  · rw [if_neg ho, if_neg ho]
end Go.Proofs.YtgkemhgihbfmmaaGreatDoor.PA
end
section
namespace Go.Proofs.YtgkemhgihbfmmaaGreatDoor.PA
open Go.RowKit Go.Proofs.YtgkemhgihbfmmaaGreatDoorW.PrintWords Go.Proofs.YtgkemhgihbfmmaaGreatDoorW.PrintLast Go.Proofs.YtgkemhgihbfmmaaGreatDoorW.PrintMore
def awakeText : ByteArray := ⟨#[105, 102, 32, 97, 32, 62, 32, 50, 32, 116, 104, 101, 110, 32, 97, 32, 42, 32, 50, 46, 53, 32, 101, 108, 115, 101, 32, 110, 117, 108, 108]⟩
def bare (op : Int) (kids : List S31) : S31 := ⟨op, ⟨0, ⟨0, 0⟩, ⟨#[]⟩, 0⟩, ⟨#[]⟩, kids⟩
def num (n s : Int) : S31 := ⟨1, ⟨1, ⟨n, s⟩, ⟨#[]⟩, 0⟩, ⟨#[]⟩, []⟩
def nul : S31 := ⟨1, ⟨0, ⟨0, 0⟩, ⟨#[]⟩, 0⟩, ⟨#[]⟩, []⟩
def nam (b : UInt8) : S31 := ⟨2, ⟨0, ⟨0, 0⟩, ⟨#[]⟩, 0⟩, ⟨#[b]⟩, []⟩
def awakeKids : List S31 := [bare 12 [nam 97, num 2 0], bare 6 [nam 97, num 25 1], nul]
set_option maxRecDepth 100000 in
theorem awake_parse : expr_Parse.f 200 awakeText = some (17, 0, 0, 0, ⟨#[]⟩, 0, ⟨#[]⟩, awakeKids, 0, 0) := by kernel_rfl
set_option maxRecDepth 100000 in
theorem awake_sound : expr_Sound.f 200 17 0 0 0 ⟨#[]⟩ 0 ⟨#[]⟩ awakeKids = some true := by kernel_rfl
set_option maxRecDepth 100000 in
theorem awake_names : expr_names.f 200 17 0 0 0 ⟨#[]⟩ 0 ⟨#[]⟩ awakeKids = some [⟨#[97]⟩, ⟨#[97]⟩] := by kernel_rfl
def awakeList : List S27 := [⟨⟨#[97]⟩, ⟨1, ⟨3, 0⟩, ⟨#[]⟩, 0⟩⟩]
set_option maxRecDepth 100000 in
theorem awake_val : calc_scope_eval.f 200 awakeList 17 0 0 0 ⟨#[]⟩ 0 ⟨#[]⟩ awakeKids = some (1, 75, 1, ⟨#[]⟩, 0) := by kernel_rfl
theorem awake_eval : calc_Eval.f 200 17 0 0 0 ⟨#[]⟩ 0 ⟨#[]⟩ awakeKids awakeList = some (1, 75, 1, ⟨#[]⟩, 0, 0) := by
  rw [eval_f (by decide) (by decide) awake_sound, if_pos rfl, if_neg (by decide +kernel), awake_names]
  simp only [Option.bind_some]
  rw [if_pos (by decide), if_pos (by decide +kernel), awake_val]
  rfl
theorem awake_f {k : Nat} (hk : 200 ≤ k) : soffitlaw11_awake.f k = some true := by
  refine up (fun k => soffitlaw11_awake.mono k) hk ?_
  unfold soffitlaw11_awake.f
  refine Option.bind_eq_some_iff.mpr ⟨_, awake_parse, ?_⟩
  refine Option.bind_eq_some_iff.mpr ⟨_, awake_eval, ?_⟩
  kernel_rfl
end Go.Proofs.YtgkemhgihbfmmaaGreatDoor.PA
end
section
namespace Go.Proofs.YtgkemhgihbfmmaaGreatDoor.PA
open Go.RowKit Go.Proofs.YtgkemhgihbfmmaaGreatDoorW.PrintWords Go.Proofs.YtgkemhgihbfmmaaGreatDoorW.PrintLast Go.Proofs.YtgkemhgihbfmmaaGreatDoorW.PrintMore
open Go.Proofs.YtgkemhgihbfmmaaGreatDoor.M
theorem all_two {k : Nat} (hk : 15 ≤ k) (n s n' s' : Int) : deci_all.f k [⟨n, s⟩, ⟨n', s'⟩] = some (if Snd n s ∧ Snd n' s' then 0 else 2) := by
  obtain ⟨k, rfl⟩ : ∃ m, k = m + 3 := ⟨k - 3, by omega⟩
  have w1 : wrap64 (0 + 1) = 1 := w64 (by decide) (by decide)
  have w2 : wrap64 (1 + 1) = 2 := w64 (by decide) (by decide)
  unfold deci_all.f
  simp only [deci_all.l0, List.length_cons, List.length_nil, w1, w2]
  have e0 : rd_T23 [(⟨n, s⟩ : S23), ⟨n', s'⟩] 0 = ⟨n, s⟩ := rfl
  have e1 : rd_T23 [(⟨n, s⟩ : S23), ⟨n', s'⟩] 1 = ⟨n', s'⟩ := rfl
  rw [if_pos (by decide), if_pos (by decide), if_pos (by decide), e0, sound_f (by omega)]
  simp only [Option.bind_some, decide_eq_true_eq]
  by_cases h : Snd n s
  · rw [if_pos h, if_pos (by decide), if_pos (by decide), if_pos (by decide), e1, sound_f (by omega)]
    simp only [Option.bind_some, decide_eq_true_eq]
    by_cases h' : Snd n' s'
    · rw [if_pos h', if_neg (by decide)]; simp only [h, h', and_self, if_true]
    · rw [if_neg h']; simp only [h, h', and_false, if_false]
  · rw [if_neg h]; simp only [h, false_and, if_false]
theorem power_l0 (d : Nat) : ∀ (k i : Nat), d < k → i + d ≤ 18 → deci_power.l0 k (10 ^ i) ((i + d : Nat) : Int) (i : Int) = some (10 ^ (i + d)) := by
  have hp : ∀ j : Nat, j ≤ 18 → (10 : Int) ^ j ≤ 1000000000000000000 := fun j h => by
    have h1 : (10 : Int) ^ 18 = 10 ^ j * 10 ^ (18 - j) := by rw [← Int.pow_add]; congr 1; omega
    have h2 := pow_pos j; have h3 := pow_pos (18 - j)
    have h4 : 10 ^ j * 1 ≤ (10 : Int) ^ j * 10 ^ (18 - j) := Int.mul_le_mul_of_nonneg_left (by omega) (by omega)
    have h5 : (10 : Int) ^ 18 = 1000000000000000000 := by decide
    omega
  induction d with
  | zero =>
    intro k i hk hi
    obtain ⟨k, rfl⟩ := succ_of (show 0 < k by omega)
    simp only [deci_power.l0]; rw [if_neg (by omega)]; simp
  | succ d ih =>
    intro k i hk hi
    obtain ⟨k, rfl⟩ := succ_of (show 0 < k by omega)
    simp only [deci_power.l0]
    have h1 := hp (i + 1) (by omega); have h2 := pow_pos (i + 1)
    rw [if_pos (by omega), ← Int.pow_succ, wu64 (by omega) (by omega), w64 (by omega) (by omega)]
    have := ih k (i + 1) (by omega) (by omega)
    rw [show ((i + 1 : Nat) : Int) = (i : Int) + 1 by omega, show i + 1 + d = i + (d + 1) by omega] at this
    exact this
theorem power_f {k : Nat} (hk : 20 ≤ k) {n : Int} (h0 : 0 ≤ n) (h1 : n ≤ 18) : deci_power.f k n = some (10 ^ n.toNat) := by
  obtain ⟨t, rfl⟩ := Int.eq_ofNat_of_zero_le h0
  have := power_l0 t k 0 (by omega) (by omega)
  simp only [Nat.zero_add, Int.pow_zero] at this
  unfold deci_power.f; rw [Int.toNat_natCast]; exact this
end Go.Proofs.YtgkemhgihbfmmaaGreatDoor.PA
end
section
namespace Go.Proofs.YtgkemhgihbfmmaaGreatDoor.PA
open Go.RowKit Go.Proofs.YtgkemhgihbfmmaaGreatDoorW.PrintWords Go.Proofs.YtgkemhgihbfmmaaGreatDoorW.PrintLast Go.Proofs.YtgkemhgihbfmmaaGreatDoorW.PrintMore
open Go.Proofs.YtgkemhgihbfmmaaGreatDoor.M
theorem pow_le {a b : Nat} (h : a ≤ b) : (10 : Int) ^ a ≤ 10 ^ b := by
  obtain ⟨c, rfl⟩ := Nat.exists_eq_add_of_le h
  rw [Int.pow_add]
  have h1 := pow_pos a; have h2 := pow_pos c
  have h3 : (10 : Int) ^ a * 1 ≤ 10 ^ a * 10 ^ c := Int.mul_le_mul_of_nonneg_left (by omega) (by omega)
  omega
theorem pow_6 {a : Nat} (h : a ≤ 6) : 1 ≤ (10 : Int) ^ a ∧ (10 : Int) ^ a ≤ 1000000 := by
  have h1 := pow_pos a; have h2 := pow_le h
  have e : (10 : Int) ^ 6 = 1000000 := by decide
  omega
def un (n s : Int) : Int := n * 10 ^ (6 - s).toNat
theorem mul_bound {n p N P : Int} (h1 : -N ≤ n) (h2 : n ≤ N) (h3 : 0 ≤ p) (h4 : p ≤ P) (hN : 0 ≤ N) : -(N * P) ≤ n * p ∧ n * p ≤ N * P := by
  have a1 : n * p ≤ N * p := Int.mul_le_mul_of_nonneg_right h2 h3
  have a2 : N * p ≤ N * P := Int.mul_le_mul_of_nonneg_left h4 hN
  have a3 : -N * p ≤ n * p := Int.mul_le_mul_of_nonneg_right h1 h3
  rw [Int.neg_mul] at a3; omega
theorem un_bound {n s : Int} (h : Snd n s) : -999999999999000000 ≤ un n s ∧ un n s ≤ 999999999999000000 := by
  obtain ⟨h0, h1, h2, h3, _⟩ := h
  have hp := pow_6 (a := (6 - s).toNat) (by omega)
  have := mul_bound (N := 999999999999) (P := 1000000) h2 h3 (by omega) hp.2 (by decide)
  unfold un; omega
theorem units_f {k : Nat} (hk : 40 ≤ k) {n s : Int} (h : Snd n s) : deci_units.f k n s = some (un n s) := by
  have hb := un_bound h
  obtain ⟨h0, h1, h2, h3, _⟩ := h
  have hp := pow_6 (a := (6 - s).toNat) (by omega)
  unfold deci_units.f
  rw [w64 (by omega) (by omega), power_f (by omega) (by omega) (by omega)]
  simp only [obs]
  rw [w64 (x := (10 : Int) ^ (6 - s).toNat) (by omega) (by omega)]
  rw [show n * 10 ^ (6 - s).toNat = un n s from rfl, w64 (by omega) (by omega)]
def cmpS (n s n' s' : Int) : Int × Int :=
  if Snd n s ∧ Snd n' s' then (if un n s < un n' s' then -1 else if un n' s' < un n s then 1 else 0, 0) else (0, 2)
theorem compare_ff {k : Nat} (hk : 40 ≤ k) (n s n' s' : Int) : deci_Compare.f k n s n' s' = some (cmpS n s n' s') := by
  unfold deci_Compare.f cmpS
  rw [all_two (by omega)]
  simp only [obs]
  by_cases h : Snd n s ∧ Snd n' s'
  · rw [if_pos h, if_pos rfl, if_pos h, units_f hk h.1, units_f hk h.2]
    simp only [obs]
    unfold cmp_Compare_int.f cmp_isNaN_int.f
    simp only [bne_self_eq_false, obs, Bool.false_eq_true, if_false]
    by_cases g : un n s < un n' s'
    · simp [g]
    · by_cases g2 : un n' s' < un n s
      · simp [g, g2]
      · simp [g, g2]
  · rw [if_neg h, if_neg (by decide), if_neg h]
end Go.Proofs.YtgkemhgihbfmmaaGreatDoor.PA
end
section
namespace Go.Proofs.YtgkemhgihbfmmaaGreatDoor.PA
open Go.RowKit Go.Proofs.YtgkemhgihbfmmaaGreatDoorW.PrintWords Go.Proofs.YtgkemhgihbfmmaaGreatDoorW.PrintLast Go.Proofs.YtgkemhgihbfmmaaGreatDoorW.PrintMore
open Go.Proofs.YtgkemhgihbfmmaaGreatDoor.M
def ordv (a n s : Int) (t : ByteArray) (x n' s' : Int) (t' : ByteArray) (x' : Int) : Int :=
  if a = 1 then (if un n s < un n' s' then -1 else if un n' s' < un n s then 1 else 0)
  else if Op.bytesLess t.toList t'.toList = true then -1 else if Op.bytesLess t'.toList t.toList = true then 1 else if x < x' then -1 else if x' < x then 1 else 0
theorem cmpint_f (x y : Int) : cmp_Compare_int.f x y = some (if x < y then -1 else if y < x then 1 else 0) := by
  unfold cmp_Compare_int.f cmp_isNaN_int.f
  simp only [bne_self_eq_false, obs, Bool.false_eq_true, if_false]
  by_cases g : x < y
  · simp [g]
  · by_cases g2 : y < x
    · simp [g, g2]
    · simp [g, g2]
theorem cmpstr_f (x y : ByteArray) : cmp_Compare_string.f x y = some (if Op.bytesLess x.toList y.toList = true then -1 else if Op.bytesLess y.toList x.toList = true then 1 else 0) := by
  unfold cmp_Compare_string.f cmp_isNaN_string.f
  simp only [bne_self_eq_false, obs, Bool.false_eq_true, if_false]
  split
  · rfl
  · split <;> rfl
theorem cmpor_f {k : Nat} (hk : 4 ≤ k) (x y : Int) : cmp_Or_int.f k [x, y] = some (if x = 0 then y else x) := by
  obtain ⟨k, rfl⟩ : ∃ m, k = m + 3 := ⟨k - 3, by omega⟩
  unfold cmp_Or_int.f
  simp only [cmp_Or_int.l0, List.length_cons, List.length_nil]
  have e0 : rd [x, y] 0 = x := rfl
  have e1 : rd [x, y] (wrap64 (0 + 1)) = y := by rw [w64 (by decide) (by decide)]; rfl
  rw [if_pos (by decide +kernel), if_pos (by decide +kernel), if_pos (by decide +kernel), e0, e1]
  by_cases h : x = 0
  · rw [if_pos h, if_pos h, if_pos (by decide +kernel), if_pos (by decide +kernel), if_pos (by decide +kernel)]
    by_cases g : y = 0
    · rw [if_pos g, if_neg (by decide +kernel), g]
    · rw [if_neg g]
  · rw [if_neg h, if_neg h]
theorem order_f {k : Nat} (hk : 50 ≤ k) (a n s : Int) (t : ByteArray) (x n' s' : Int) (t' : ByteArray) (x' : Int) (h : vsd a n s t x = true) (h' : vsd a n' s' t' x' = true) :
    value_order.f k a n s t x a n' s' t' x' = some (ordv a n s t x n' s' t' x') := by
  unfold value_order.f ordv
  rw [if_pos rfl]
  by_cases h1 : a = 1
  · rw [if_pos h1, if_pos h1, compare_ff (by omega)]
    have q : Snd n s := by subst h1; simp only [vsd] at h; simp at h; exact h.1.1
    have q' : Snd n' s' := by subst h1; simp only [vsd] at h'; simp at h'; exact h'.1.1
    unfold cmpS
    rw [if_pos ⟨q, q'⟩]; rfl
  · rw [if_neg h1, if_neg h1, cmpstr_f, cmpint_f]
    simp only [Option.bind_some]
    rw [cmpor_f (by omega)]
    simp only [Option.bind_some]
    congr 1
    by_cases g : Op.bytesLess t.toList t'.toList = true
    · rw [if_pos g, if_pos g]; rfl
    · rw [if_neg g, if_neg g]
      by_cases g2 : Op.bytesLess t'.toList t.toList = true
      · rw [if_pos g2, if_pos g2]; rfl
      · rw [if_neg g2, if_neg g2]; rfl
def trv (b : Bool) : Int × Int × Int × ByteArray × Int := (3, 0, 0, ⟨#[]⟩, if b = true then 1 else 0)
def nov : Int × Int × Int × ByteArray × Int := (0, 0, 0, ⟨#[]⟩, 0)
theorem truth_f (b : Bool) : logic_Truth.f b = some (trv b) := by
  unfold logic_Truth.f trv
  cases b <;> rfl
def lessv (a n s : Int) (t : ByteArray) (x a' n' s' : Int) (t' : ByteArray) (x' : Int) : Option Bool :=
  if vsd a n s t x = true ∧ vsd a' n' s' t' x' = true ∧ a = a' ∧ a ≠ 0 ∧ a ≠ 3 then some (decide (ordv a n s t x n' s' t' x' < 0)) else none
def outv (o : Option Bool) : Int × Int × Int × ByteArray × Int := match o with
  | some b => trv b
  | none => nov
theorem less_vf {k : Nat} (hk : 50 ≤ k) (a n s : Int) (t : ByteArray) (x a' n' s' : Int) (t' : ByteArray) (x' : Int) :
    calc_Less.f k a n s t x a' n' s' t' x' = some (outv (lessv a n s t x a' n' s' t' x')) := by
  obtain ⟨k, rfl⟩ : ∃ m, k = m + 1 := ⟨k - 1, by omega⟩
  have j : ∀ (c : Int) (b : Bool), calc_Less.j0 (k + 1) c b = some (if b = true then nov else trv (decide (c < 0))) := by
    intro c b
    rw [calc_Less.j0, truth_f]
    cases b <;> rfl
  unfold calc_Less.f value_Compare.f
  rw [vsound_f (by omega), vsound_f (by omega)]
  simp only [Option.bind_some, j]
  by_cases h : vsd a n s t x = true
  · by_cases h' : vsd a' n' s' t' x' = true
    · rw [if_pos h, if_pos h']
      by_cases e : a = a'
      · subst e
        rw [order_f (by omega) _ _ _ _ _ _ _ _ _ h h']
        simp only [Option.bind_some, if_true]
        by_cases e0 : a = 0
        · rw [show lessv a n s t x a n' s' t' x' = none from if_neg (fun q => q.2.2.2.1 e0), if_pos e0]; rfl
        · by_cases e3 : a = 3
          · rw [show lessv a n s t x a n' s' t' x' = none from if_neg (fun q => q.2.2.2.2 e3), if_neg e0, e3]; rfl
          · rw [show lessv a n s t x a n' s' t' x' = some _ from if_pos ⟨h, h', rfl, e0, e3⟩, if_neg e0, show (a == 3) = false from beq_eq_false_iff_ne.mpr e3]; rfl
      · have : value_order.f (k + 1) a n s t x a' n' s' t' x' = some (if a < a' then -1 else if a' < a then 1 else 0) := by
          unfold value_order.f
          rw [if_neg e, cmpint_f]; rfl
        rw [this]
        simp only [Option.bind_some, if_true]
        rw [if_neg e, show lessv a n s t x a' n' s' t' x' = none from if_neg (fun q => e q.2.2.1)]; rfl
    · rw [if_pos h, if_neg h', show lessv a n s t x a' n' s' t' x' = none from if_neg (fun q => h' q.2.1)]; simp only [Option.bind_some]; rw [if_neg (by decide)]; rfl
  · rw [if_neg h, show lessv a n s t x a' n' s' t' x' = none from if_neg (fun q => h q.1)]; simp only [Option.bind_some]; rw [if_neg (by decide)]; rfl
def same5 (a n s : Int) (t : ByteArray) (x a' n' s' : Int) (t' : ByteArray) (x' : Int) : Bool := a == a' && ((n == n' && s == s') && (t.toList == t'.toList && x == x'))
def eqv (a n s : Int) (t : ByteArray) (x a' n' s' : Int) (t' : ByteArray) (x' : Int) : Option Bool :=
  if vsd a n s t x = true ∧ vsd a' n' s' t' x' = true ∧ (a = 0 ∨ a' = 0 ∨ a = a') then some (same5 a n s t x a' n' s' t' x') else none
theorem equal_vf {k : Nat} (hk : 50 ≤ k) (a n s : Int) (t : ByteArray) (x a' n' s' : Int) (t' : ByteArray) (x' : Int) :
    calc_Equal.f k a n s t x a' n' s' t' x' = some (outv (eqv a n s t x a' n' s' t' x')) := by
  obtain ⟨k, rfl⟩ : ∃ m, k = m + 3 := ⟨k - 3, by omega⟩
  have j2 : ∀ b : Bool, calc_Equal.j2 (k + 1) b a n s t x a' n' s' t' x' = some (if b = true then trv (same5 a n s t x a' n' s' t' x') else nov) := by
    intro b
    rw [calc_Equal.j2, truth_f]
    cases b <;> rfl
  have j1 : ∀ b : Bool, calc_Equal.j1 (k + 2) b a n s t x a' n' s' t' x' = some (if b = true ∨ a = a' then trv (same5 a n s t x a' n' s' t' x') else nov) := by
    intro b
    rw [calc_Equal.j1]
    cases b
    · rw [if_neg (by simp), j2]; by_cases e : a = a' <;> simp [e]
    · rw [if_pos rfl, j2]; simp
  have j0 : ∀ b : Bool, calc_Equal.j0 (k + 3) b a n s t x a' n' s' t' x' = some (if b = true then nov else if a = 0 ∨ a' = 0 ∨ a = a' then trv (same5 a n s t x a' n' s' t' x') else nov) := by
    intro b
    rw [calc_Equal.j0]
    cases b
    · rw [if_neg (by simp)]
      by_cases e : a = 0
      · rw [if_pos e, j1]; simp [e]
      · rw [if_neg e, j1]; by_cases e' : a' = 0 <;> simp [e, e']
    · rw [if_pos rfl]; rfl
  unfold calc_Equal.f eqv
  rw [vsound_f (by omega), vsound_f (by omega)]
  simp only [Option.bind_some, j0]
  cases h : vsd a n s t x <;> cases h' : vsd a' n' s' t' x'
  · simp [outv]
  · simp [outv]
  · simp [outv]
  · by_cases e : a = 0 ∨ a' = 0 ∨ a = a' <;> simp [e, outv]
end Go.Proofs.YtgkemhgihbfmmaaGreatDoor.PA
end
section
namespace Go.Proofs.YtgkemhgihbfmmaaGreatDoor.PA
open Go.RowKit Go.Proofs.YtgkemhgihbfmmaaGreatDoorW.PrintWords Go.Proofs.YtgkemhgihbfmmaaGreatDoorW.PrintLast Go.Proofs.YtgkemhgihbfmmaaGreatDoorW.PrintMore
open Go.Proofs.YtgkemhgihbfmmaaGreatDoor.M
theorem un_inj {n s n' s' : Int} (h : Snd n s) (h' : Snd n' s') (e : un n s = un n' s') : n = n' ∧ s = s' := by
  obtain ⟨a0, a1, a2, a3, a4⟩ := h
  obtain ⟨b0, b1, b2, b3, b4⟩ := h'
  unfold un at e
  have c : s = 0 ∨ s = 1 ∨ s = 2 ∨ s = 3 ∨ s = 4 ∨ s = 5 ∨ s = 6 := by omega
  have c' : s' = 0 ∨ s' = 1 ∨ s' = 2 ∨ s' = 3 ∨ s' = 4 ∨ s' = 5 ∨ s' = 6 := by omega
  rcases c with rfl | rfl | rfl | rfl | rfl | rfl | rfl <;> rcases c' with rfl | rfl | rfl | rfl | rfl | rfl | rfl <;> simp at e ⊢ <;> omega
def cnt (o : Option Bool) : Int := if o = some true then 1 else 0
theorem cnt_le (o : Option Bool) : cnt o = 0 ∨ cnt o = 1 := by unfold cnt; split <;> simp
theorem vsd_nil {a n s : Int} {t : ByteArray} {x : Int} (h : vsd a n s t x = true) (ha : a ≠ 2) : t.toList = [] := by
  unfold vsd at h
  (repeat' split at h) <;> simp_all
theorem vsd_n {a n s : Int} {t : ByteArray} {x : Int} (h : vsd a n s t x = true) (ha : a ≠ 1) : n = 0 ∧ s = 0 := by
  unfold vsd at h
  (repeat' split at h) <;> simp_all
theorem vsd_x {a n s : Int} {t : ByteArray} {x : Int} (h : vsd a n s t x = true) (ha : a = 1 ∨ a = 2) : x = 0 := by
  unfold vsd at h
  rcases ha with rfl | rfl
  · simp at h; exact h.2
  · simp at h; exact h.1.1.2
theorem less_irrefl (l : List UInt8) : Op.bytesLess l l = false := by
  have := bytesLess_total l l
  rw [beq_self_eq_true, Bool.or_true] at this
  exact this.symm
theorem less_asymm {x y : List UInt8} (h : Op.bytesLess x y = true) : Op.bytesLess y x = false := by
  rw [← bytesLess_total, h]; rfl
theorem three_one {a n s : Int} {t : ByteArray} {x n' s' : Int} {t' : ByteArray} {x' : Int} (h : vsd a n s t x = true) (h' : vsd a n' s' t' x' = true) (h0 : a ≠ 0) (h3 : a ≠ 3) :
    cnt (lessv a n s t x a n' s' t' x') + cnt (eqv a n s t x a n' s' t' x') + cnt (lessv a n' s' t' x' a n s t x) = 1 := by
  unfold lessv eqv
  rw [if_pos ⟨h, h', rfl, h0, h3⟩, if_pos ⟨h, h', Or.inr (Or.inr rfl)⟩, if_pos ⟨h', h, rfl, h0, h3⟩]
  unfold cnt ordv same5
  by_cases h1 : a = 1
  · rw [if_pos h1, if_pos h1]
    subst h1
    have q : Snd n s := by simp only [vsd] at h; simp at h; exact h.1.1
    have q' : Snd n' s' := by simp only [vsd] at h'; simp at h'; exact h'.1.1
    have t0 := vsd_nil h (by decide)
    have t1 := vsd_nil h' (by decide)
    have x0 := vsd_x h (Or.inl rfl)
    have x1 := vsd_x h' (Or.inl rfl)
    rw [t0, t1, x0, x1]
    rcases Int.lt_trichotomy (un n s) (un n' s') with g | g | g
    · have g2 : ¬ un n' s' < un n s := by omega
      have g3 : ¬ (n = n' ∧ s = s') := fun e => by rw [e.1, e.2] at g; omega
      by_cases e : n = n'
      · have e2 : ¬ s = s' := fun e2 => g3 ⟨e, e2⟩
        simp [g, g2, e2]
      · simp [g, g2, e]
    · have := un_inj q q' g
      have g2 : ¬ un n s < un n' s' := by omega
      have g3 : ¬ un n' s' < un n s := by omega
      simp [g2, g3, this.1, this.2]
    · have g2 : ¬ un n s < un n' s' := by omega
      have g3 : ¬ (n = n' ∧ s = s') := fun e => by rw [e.1, e.2] at g; omega
      by_cases e : n = n'
      · have e2 : ¬ s = s' := fun e2 => g3 ⟨e, e2⟩
        simp [g, g2, e2]
      · simp [g, g2, e]
  · rw [if_neg h1, if_neg h1]
    obtain ⟨n0, s0⟩ := vsd_n h h1
    obtain ⟨n1, s1⟩ := vsd_n h' h1
    rw [n0, s0, n1, s1]
    generalize t.toList = u
    generalize t'.toList = u'
    by_cases g : Op.bytesLess u u' = true
    · have g2 := less_asymm g
      have g3 : ¬ u = u' := fun e => by rw [e, less_irrefl] at g; cases g
      simp [g, g2, g3]
    · by_cases g2 : Op.bytesLess u' u = true
      · have g3 : ¬ u = u' := fun e => by rw [e, less_irrefl] at g2; cases g2
        simp [g, g2, g3]
      · have g3 : u = u' := by
          have := bytesLess_total u u'
          simp only [Bool.not_eq_true] at g g2
          rw [g, g2] at this
          simpa using this
        subst g3
        have gi := less_irrefl u
        rcases Int.lt_trichotomy x x' with y | y | y
        · have y2 : ¬ x' < x := by omega
          have y3 : ¬ x = x' := by omega
          simp [gi, y, y2, y3]
        · subst y; simp [gi]
        · have y2 : ¬ x < x' := by omega
          have y3 : ¬ x = x' := by omega
          simp [gi, y, y2, y3]
theorem isT_out (o : Option Bool) : ((outv o).1 == 3 && (((outv o).2.1 == 0 && ((outv o).2.2.1 == 0)) && ((outv o).2.2.2.1.toList == (⟨#[]⟩ : ByteArray).toList && ((outv o).2.2.2.2 == 1)))) = decide (o = some true) := by
  cases o with
  | none => rfl
  | some b => cases b <;> simp [outv, trv]
theorem three_l0 (k : Nat) (c : Int) (hc0 : 0 ≤ c) (hc : c ≤ 10) (o0 o1 o2 : Option Bool) (a0 a1 a2 : Int) (a3 : ByteArray) (a4 b0 b1 b2 : Int) (b3 : ByteArray) (b4 : Int) :
    let v := fun o => (⟨(outv o).1, ⟨(outv o).2.1, (outv o).2.2.1⟩, (outv o).2.2.2.1, (outv o).2.2.2.2⟩ : S25)
    soffitlaw11_CalcThree.l0 (k + 3) c [v o0, v o1, v o2] 3 0 a0 a1 a2 a3 a4 b0 b1 b2 b3 b4 = soffitlaw11_CalcThree.l0 k (c + cnt o0 + cnt o1 + cnt o2) [v o0, v o1, v o2] 3 3 a0 a1 a2 a3 a4 b0 b1 b2 b3 b4 := by
  intro v
  have step : ∀ (k : Nat) (c : Int) (i : Nat) (o : Option Bool), 0 ≤ c → c ≤ 20 → i < 3 → rd_T25 [v o0, v o1, v o2] (i : Int) = v o → soffitlaw11_CalcThree.l0 (k + 1) c [v o0, v o1, v o2] 3 (i : Int) a0 a1 a2 a3 a4 b0 b1 b2 b3 b4 = soffitlaw11_CalcThree.l0 k (c + cnt o) [v o0, v o1, v o2] 3 ((i + 1 : Nat) : Int) a0 a1 a2 a3 a4 b0 b1 b2 b3 b4 := by
    intro k c i o h0 h1 hi hr
    rw [soffitlaw11_CalcThree.l0, if_pos (by omega), if_pos (by omega), if_pos (by show (i : Int) < 3; omega), show soffitref10_Truth.f true = some (3, 0, 0, ⟨#[]⟩, 1) from rfl]
    simp only [Option.bind_some, hr]
    have e := isT_out o
    rw [show ((v o).f0 == 3 && (((v o).f1.f0 == 0 && ((v o).f1.f1 == 0)) && ((v o).f2.toList == (⟨#[]⟩ : ByteArray).toList && ((v o).f3 == 1)))) = decide (o = some true) from e]
    rw [w64 (x := c + 1) (by omega) (by omega), w64 (x := (i : Int) + 1) (by omega) (by omega)]
    unfold cnt
    by_cases g : o = some true
    · rw [if_pos (by simpa using g), if_pos g]; congr 1
    · rw [if_neg (by simpa using g), if_neg g, Int.add_zero]; congr 1
  have c0 := cnt_le o0
  have c1 := cnt_le o1
  rw [show k + 3 = (k + 2) + 1 from rfl, show (0 : Int) = ((0 : Nat) : Int) from rfl, step (k + 2) c 0 o0 hc0 (by omega) (by decide) rfl, show k + 2 = (k + 1) + 1 from rfl, step (k + 1) _ 1 o1 (by omega) (by omega) (by decide) rfl, step k _ 2 o2 (by omega) (by omega) (by decide) rfl]
  rfl
theorem calcThree_any (k : Nat) (hk : 4400 ≤ k) (a0 a1 a2 : Int) (a3 : ByteArray) (a4 b0 b1 b2 : Int) (b3 : ByteArray) (b4 : Int) : soffitlaw11_CalcThree.f (k + 6) a0 a1 a2 a3 a4 b0 b1 b2 b3 b4 = some true := by
  unfold soffitlaw11_CalcThree.f
  rw [less_vf (by omega), equal_vf (by omega), less_vf (by omega)]
  simp only [Option.bind_some, List.length_cons, List.length_nil]
  generalize hL : lessv a0 a1 a2 a3 a4 b0 b1 b2 b3 b4 = L
  generalize hE : eqv a0 a1 a2 a3 a4 b0 b1 b2 b3 b4 = E
  generalize hR : lessv b0 b1 b2 b3 b4 a0 a1 a2 a3 a4 = R
  have := three_l0 (k + 3) 0 (by decide) (by decide) L E R a0 a1 a2 a3 a4 b0 b1 b2 b3 b4
  refine Eq.trans this ?_
  have cL := cnt_le L
  have cE := cnt_le E
  have cR := cnt_le R
  rw [Int.zero_add]
  rw [show k + 3 = (k + 2) + 1 from rfl, soffitlaw11_CalcThree.l0, if_neg (by decide), awake_f (by omega)]
  simp only [Option.bind_some, if_true]
  rw [refvsound_f (by omega), refvsound_f (by omega)]
  simp only [Option.bind_some]
  have j2 : ∀ (c : Int) (b : Bool), soffitlaw11_CalcThree.j2 (k + 1) c b a0 a1 a2 a3 a4 b0 b1 b2 b3 b4 = if b = true then some (c == 1) else if c ≤ 1 then some ((c == 1) == same5 a0 a1 a2 a3 a4 b0 b1 b2 b3 b4) else some false := by
    intro c b
    rw [soffitlaw11_CalcThree.j2]; rfl
  have j1 : ∀ (c : Int) (b : Bool), soffitlaw11_CalcThree.j1 (k + 2) c b a0 a1 a2 a3 a4 b0 b1 b2 b3 b4 = if b = true then some (c == 0) else if a0 = b0 then (if a0 = 3 then (if c ≤ 1 then some ((c == 1) == same5 a0 a1 a2 a3 a4 b0 b1 b2 b3 b4) else some false) else if a0 ≠ 0 then some (c == 1) else (if c ≤ 1 then some ((c == 1) == same5 a0 a1 a2 a3 a4 b0 b1 b2 b3 b4) else some false)) else (if c ≤ 1 then some ((c == 1) == same5 a0 a1 a2 a3 a4 b0 b1 b2 b3 b4) else some false) := by
    intro c b
    rw [show k + 2 = (k + 1) + 1 from rfl, soffitlaw11_CalcThree.j1, awake_f (by omega)]
    simp only [Option.bind_some, if_true, j2]
    by_cases h : a0 = 0 <;> simp [h]
  simp only [j1]
  by_cases ha : vsd a0 a1 a2 a3 a4 = true
  · by_cases hb : vsd b0 b1 b2 b3 b4 = true
    · rw [if_pos ha]
      simp only [hb, Bool.not_true, Bool.false_eq_true, if_false]
      by_cases e : a0 = b0
      · subst e
        by_cases e0 : a0 = 0
        · have l1 : L = none := by rw [← hL]; exact if_neg (fun q => q.2.2.2.1 e0)
          have l2 : R = none := by rw [← hR]; exact if_neg (fun q => q.2.2.2.1 e0)
          have l3 : E = some (same5 a0 a1 a2 a3 a4 a0 b1 b2 b3 b4) := by rw [← hE]; exact if_pos ⟨ha, hb, Or.inl e0⟩
          rw [l1, l2, l3, if_pos rfl, if_neg (by omega), if_neg (by omega)]
          cases same5 a0 a1 a2 a3 a4 a0 b1 b2 b3 b4 <;> rfl
        · by_cases e3 : a0 = 3
          · have l1 : L = none := by rw [← hL]; exact if_neg (fun q => q.2.2.2.2 e3)
            have l2 : R = none := by rw [← hR]; exact if_neg (fun q => q.2.2.2.2 e3)
            have l3 : E = some (same5 a0 a1 a2 a3 a4 a0 b1 b2 b3 b4) := by rw [← hE]; exact if_pos ⟨ha, hb, Or.inr (Or.inr rfl)⟩
            rw [l1, l2, l3, if_pos rfl, if_pos e3]
            cases same5 a0 a1 a2 a3 a4 a0 b1 b2 b3 b4 <;> rfl
          · rw [if_pos rfl, if_neg e3, if_pos e0]
            have := three_one ha hb e0 e3
            rw [hL, hE, hR] at this
            rw [this]; rfl
      · have l1 : L = none := by rw [← hL]; exact if_neg (fun q => e q.2.2.1)
        have l2 : R = none := by rw [← hR]; exact if_neg (fun q => e q.2.2.1.symm)
        have ns : same5 a0 a1 a2 a3 a4 b0 b1 b2 b3 b4 = false := by unfold same5; rw [show (a0 == b0) = false from beq_eq_false_iff_ne.mpr e]; rfl
        have l3 : cnt E = 0 := by
          rw [← hE]; unfold eqv cnt; rw [ns]
          split <;> simp_all
        rw [l1, l2, l3, if_neg e, ns]; rfl
    · rw [if_pos ha]
      simp only [Bool.not_eq_true] at hb
      simp only [hb, Bool.not_false, if_true]
      have l1 : L = none := by rw [← hL]; exact if_neg (fun q => by rw [hb] at q; cases q.2.1)
      have l2 : R = none := by rw [← hR]; exact if_neg (fun q => by rw [hb] at q; cases q.1)
      have l3 : E = none := by rw [← hE]; exact if_neg (fun q => by rw [hb] at q; cases q.2.1)
      rw [l1, l2, l3]; rfl
  · rw [if_neg ha, if_pos trivial]
    simp only [Bool.not_eq_true] at ha
    have l1 : L = none := by rw [← hL]; exact if_neg (fun q => by rw [ha] at q; cases q.1)
    have l2 : R = none := by rw [← hR]; exact if_neg (fun q => by rw [ha] at q; cases q.2.1)
    have l3 : E = none := by rw [← hE]; exact if_neg (fun q => by rw [ha] at q; cases q.1)
    rw [l1, l2, l3]; rfl
theorem calcThree_true (a0 a1 a2 : Int) (a3 : ByteArray) (a4 b0 b1 b2 : Int) (b3 : ByteArray) (b4 : Int) : soffitlaw11_CalcThree.f 5000 a0 a1 a2 a3 a4 b0 b1 b2 b3 b4 = some true := calcThree_any 4994 (by decide) a0 a1 a2 a3 a4 b0 b1 b2 b3 b4
end Go.Proofs.YtgkemhgihbfmmaaGreatDoor.PA
end
