/- Part 20 of the proof for Texts: functions of the program as plain Lean functions, their calls, and what they come to. -/
import Derived.Laws.BytesArg
import Derived.Test.YtgkemhgihbfmmaaDoorTextsK18
import Derived.Test.YtgkemhgihbfmmaaDoorTextsK16
import Derived.Test.YtgkemhgihbfmmaaDoorTextsK17
import Derived.Test.YtgkemhgihbfmmaaDoorTextsK2
set_option linter.unusedVariables false
set_option linter.unusedSimpArgs false
section
namespace Go.Proofs.YtgkemhgihbfmmaaDoor.PA
open Go.RowKit Go.Proofs.YtgkemhgihbfmmaaDoorW.PrintWords Go.Proofs.YtgkemhgihbfmmaaDoorW.PrintLast Go.Proofs.YtgkemhgihbfmmaaDoorW.PrintMore
open Go.Proofs.YtgkemhgihbfmmaaDoor.M
theorem rd_app (p : List Int) (x : Int) (s : List Int) : rd (p ++ x :: s) (p.length : Int) = x := by
  unfold rd; rw [Int.toNat_natCast]; simp
theorem set_app (p : List Int) (x v : Int) (s : List Int) : (p ++ x :: s).set p.length v = p ++ v :: s := by simp
theorem rd_cons (x : Int) (s : List Int) : rd (x :: s) 0 = x := rfl
theorem rd_dig {l : List Int} (h : Dig l) (i : Nat) : 0 ≤ rd l i ∧ rd l i ≤ 9 := by
  unfold rd; rw [Int.toNat_natCast, List.getD_eq_getElem?_getD]
  by_cases hi : i < l.length
  · rw [List.getElem?_eq_getElem hi]; exact h _ (List.getElem_mem hi)
  · rw [List.getElem?_eq_none (by omega)]; exact ⟨by decide, by decide⟩
theorem refsize_f {n : Int} (h1 : -9223372036854775807 ≤ n) (h2 : n < 9223372036854775808) : soffitref01_size.f n = some (n.natAbs : Int) := by
  unfold soffitref01_size.f
  by_cases h : n < 0
  · rw [if_pos h, w64 (by omega) (by omega)]; congr 1; omega
  · rw [if_neg h]; congr 1; omega
theorem plus_l0 : ∀ (la lb : List Int) (k : Nat) (pa pb p : List Int) (c : Int), la.length = lb.length → Dig la → Dig lb → 0 ≤ c → c ≤ 1 → pa.length = p.length → pb.length = p.length → la.length < k → p.length + la.length ≤ 1000 →
    soffitref01_plus.l0 k (pa ++ la) (pb ++ lb) (p ++ List.replicate la.length 0) c (p.length : Int) = some (p ++ addc c la lb)
  | [], [], k, pa, pb, p, c, _, _, _, _, _, hpa, _, hk, _ => by
    obtain ⟨k, rfl⟩ := succ_of (show 0 < k by omega)
    simp only [soffitref01_plus.l0]; rw [if_neg (by simp; omega)]; simp [addc]
  | [], _ :: _, _, _, _, _, _, h, _, _, _, _, _, _, _, _ => by simp at h
  | _ :: _, [], _, _, _, _, _, h, _, _, _, _, _, _, _, _ => by simp at h
  | x :: la, y :: lb, k, pa, pb, p, c, h, ha, hb, h0, h1, hpa, hpb, hk, hl => by
    obtain ⟨k, rfl⟩ := succ_of (show 0 < k by omega)
    have hx := (Dig.cons.1 ha).1; have hy := (Dig.cons.1 hb).1
    have hh : la.length = lb.length := by simpa using h
    simp only [List.length_cons] at hk hl
    simp only [soffitref01_plus.l0]
    have ra : rd (pa ++ x :: la) (p.length : Int) = x := by rw [← hpa]; exact rd_app pa x la
    have rb : rd (pb ++ y :: lb) (p.length : Int) = y := by rw [← hpb]; exact rd_app pb y lb
    rw [if_pos (by simp; omega), if_pos (by omega), if_pos (by simp; omega), if_pos (by simp; omega), ra, rb, w64 (x := x + y) (by omega) (by omega), w64 (x := x + y + c) (by omega) (by omega),
      Int.tdiv_eq_ediv_of_nonneg (show 0 ≤ x + y + c by omega), Int.tmod_eq_emod_of_nonneg (show 0 ≤ x + y + c by omega), w64 (x := (x + y + c) / 10) (by omega) (by omega), w64 (by omega) (by omega), Int.toNat_natCast,
      List.length_cons, List.replicate_succ, set_app]
    have := plus_l0 la lb k (pa ++ [x]) (pb ++ [y]) (p ++ [(x + y + c) % 10]) ((x + y + c) / 10) hh (Dig.cons.1 ha).2 (Dig.cons.1 hb).2 (by omega) (by omega) (by simp; omega) (by simp; omega) (by omega) (by simp; omega)
    simp only [List.length_append, List.length_singleton, List.append_assoc, List.singleton_append] at this
    rw [show ((p.length + 1 : Nat) : Int) = (p.length : Int) + 1 by omega] at this
    rw [this]; rfl
theorem plus_f {k : Nat} {a b : List Int} (h : a.length = b.length) (ha : Dig a) (hb : Dig b) (hk : a.length < k) (hl : a.length ≤ 1000) : soffitref01_plus.f k a b = some (addc 0 a b) := by
  unfold soffitref01_plus.f
  rw [if_pos (by omega), if_pos (by omega), Int.toNat_natCast]
  have := plus_l0 a b k [] [] [] 0 h ha hb (by decide) (by decide) rfl rfl hk (by simpa using hl)
  simpa using this
theorem decl2 (row : List Int) (b : Int) (m : Bool) (hd : Dig row) (i : Nat) : ∀ (k : Nat) (n : Int), i < k → i ≤ row.length → row.length ≤ 1000 → 0 ≤ n → n ≤ 100000000000000 →
    soffitref01_dec.l2 k row b m n ((i : Int) - 1) = some (if 999999999999 < n * 10 ^ i + val (row.take i) then (0, 0, 3) else (if m = true then -(n * 10 ^ i + val (row.take i)) else n * 10 ^ i + val (row.take i), b, 0)) := by
  induction i with
  | zero =>
    intro k n hk _ _ h0 h1
    obtain ⟨k, rfl⟩ := succ_of (show 0 < k by omega)
    simp only [soffitref01_dec.l2]; rw [if_neg (by omega)]
    simp only [List.take_zero, val, Int.pow_zero, Int.mul_one, Int.add_zero]
    by_cases h : n > 999999999999
    · rw [if_pos h, if_pos h]
    · rw [if_neg h, if_neg h, w64 (x := -n) (by omega) (by omega)]; cases m <;> rfl
  | succ i ih =>
    intro k n hk hi hl h0 h1
    obtain ⟨k, rfl⟩ := succ_of (show 0 < k by omega)
    have e1 : ((i + 1 : Nat) : Int) - 1 = (i : Int) := by omega
    have hdg := rd_dig hd i
    have hv : val (row.take (i + 1)) = val (row.take i) + 10 ^ i * rd row i := by
      have e : row.take (i + 1) = row.take i ++ [rd row i] := by
        rw [List.take_succ_eq_append_getElem (show i < row.length by omega)]
        unfold rd; rw [Int.toNat_natCast, List.getD_eq_getElem?_getD, List.getElem?_eq_getElem (by omega)]; rfl
      rw [e, val_append, List.length_take, Nat.min_eq_left (by omega)]; simp [val]
    have hp := pow_pos i
    have hvn := val_nonneg (hd.take i)
    have e2 : n * 10 ^ (i + 1) + val (row.take (i + 1)) = (n * 10 + rd row i) * 10 ^ i + val (row.take i) := by
      rw [hv, Int.pow_succ, Int.add_mul]
      have a1 : n * (10 ^ i * 10) = n * 10 * 10 ^ i := by ac_rfl
      have a2 : 10 ^ i * rd row i = rd row i * 10 ^ i := Int.mul_comm _ _
      rw [a1, a2]; omega
    rw [e1, e2]
    simp only [soffitref01_dec.l2]; rw [if_pos (by omega)]
    by_cases h : n > 999999999999
    · have h3 : (n * 10 + rd row i) * 1 ≤ (n * 10 + rd row i) * 10 ^ i := Int.mul_le_mul_of_nonneg_left (by omega) (by omega)
      rw [if_pos h, if_pos (by omega)]
    · rw [if_neg h, if_pos (by omega), if_pos (by omega), w64 (x := n * 10) (by omega) (by omega), w64 (x := n * 10 + rd row i) (by omega) (by omega), w64 (by omega) (by omega)]
      exact ih k (n * 10 + rd row i) (by omega) (by omega) hl (by omega) (by omega)
theorem decj4 {k : Nat} {row : List Int} {b : Int} {m : Bool} (hd : Dig row) (hk : row.length + 1 < k) (hl : row.length ≤ 1000) :
    soffitref01_dec.j4 k row b m = some (if 999999999999 < val row then (0, 0, 3) else (if m = true then -val row else val row, b, 0)) := by
  obtain ⟨k, rfl⟩ := succ_of (show 0 < k by omega)
  simp only [soffitref01_dec.j4]
  rw [w64 (by omega) (by omega), decl2 row b m hd row.length k 0 (by omega) (Nat.le_refl _) hl (by decide) (by decide)]
  simp only [Int.zero_mul, Int.zero_add, List.take_length]
theorem decl1 (b : Nat) : ∀ (k : Nat) (row : List Int) (m : Bool), Dig row → b + 1 ≤ row.length → row.length ≤ 1000 → row.length + b + 2 < k →
    soffitref01_dec.l1 k row (b : Int) m = some (decS (val row) b m) := by
  induction b with
  | zero =>
    intro k row m hd h1 h2 hk
    obtain ⟨k, rfl⟩ := succ_of (show 0 < k by omega)
    simp only [soffitref01_dec.l1]; rw [if_neg (by omega), decj4 hd (by omega) h2]; rfl
  | succ b ih =>
    intro k row m hd h1 h2 hk
    obtain ⟨k, rfl⟩ := succ_of (show 0 < k by omega)
    match row, h1, h2, hk, hd with
    | d :: l, h1, h2, hk, hd =>
      have hdd := (Dig.cons.1 hd).1
      simp only [List.length_cons] at h1 h2 hk
      simp only [soffitref01_dec.l1]; rw [if_pos (by omega), if_pos (by simp only [List.length_cons]; omega), rd_cons]
      by_cases h : d = 0
      · rw [if_pos h, if_pos (by simp only [List.length_cons]; omega), w64 (by omega) (by omega)]
        have e1 : ((b + 1 : Nat) : Int) - 1 = (b : Int) := by omega
        have e2 : List.drop (1 : Int).toNat (d :: l) = l := rfl
        rw [e1, e2, ih k l m (Dig.cons.1 hd).2 (by omega) (by omega) (by omega)]
        unfold decS
        have e3 : val (d :: l) % 10 = 0 := by simp only [val]; omega
        have e4 : val (d :: l) / 10 = val l := by simp only [val]; omega
        simp only [sh, e3, if_true, e4]
      · rw [if_neg h, decj4 hd (by simp only [List.length_cons]; omega) (by simp only [List.length_cons]; omega)]
        have e3 : ¬ val (d :: l) % 10 = 0 := by simp only [val]; omega
        unfold decS
        simp only [sh, e3, if_false]; rfl
theorem decj2 {k : Nat} {row : List Int} {b up : Int} {m : Bool} (hd : Dig row) (h0 : 0 ≤ b) (h1 : b ≤ 6) (h2 : b + 1 ≤ row.length) (h3 : row.length ≤ 60) (hu0 : 0 ≤ up) (hu : up ≤ 1) (hv : val row + up < 10 ^ row.length) (hk : 100 ≤ k) :
    soffitref01_dec.j2 k row b m up = some (decS (val row + up) b.toNat m) := by
  obtain ⟨t, rfl⟩ := Int.eq_ofNat_of_zero_le h0
  obtain ⟨k, rfl⟩ := succ_of (show 0 < k by omega)
  simp only [soffitref01_dec.j2]
  rw [if_pos (by omega), if_pos (by omega), Int.toNat_natCast]
  simp only [obs]
  obtain ⟨L, hL⟩ : ∃ L, row.length = L + 1 := ⟨row.length - 1, by omega⟩
  have e1 : (List.replicate row.length (0 : Int)).set (0 : Int).toNat up = up :: List.replicate L 0 := by rw [hL, List.replicate_succ]; rfl
  have d1 : Dig (up :: List.replicate L 0) := Dig.cons.2 ⟨by omega, Dig.replicate L⟩
  have v1 : val (up :: List.replicate L 0) = up := by simp only [val, val_replicate]; omega
  rw [if_pos (by rw [List.length_replicate]; omega), e1, plus_f (by simp [hL]) hd d1 (by omega) (by omega)]
  simp only [obs]
  have hlen : (addc 0 row (up :: List.replicate L 0)).length = row.length := addc_length _ _ _ (by simp [hL])
  rw [decl1 t k _ m (addc_dig _ _ _) (by omega) (by omega) (by omega), addc_val _ _ _ (by simp [hL]), v1, Int.add_zero, Int.emod_eq_of_lt (by have := val_nonneg hd; omega) hv, Int.toNat_natCast]
def sumd : List Int → Int
  | [] => 0
  | d :: l => d + sumd l
theorem sumd_pos : ∀ {l : List Int}, Dig l → 0 ≤ sumd l ∧ sumd l ≤ 9 * l.length ∧ (0 < sumd l ↔ 0 < val l)
  | [], _ => by simp [sumd, val]
  | d :: l, h => by
    have ih := sumd_pos (Dig.cons.1 h).2; have := (Dig.cons.1 h).1; have hn := val_nonneg (Dig.cons.1 h).2
    simp only [sumd, val, List.length_cons]; omega
theorem decl0 (row : List Int) (m : Bool) (c : Nat) (up0 : Int) (R : Int × Int × Int) (hd : Dig row) (hc : c + 1 < row.length) (hl : row.length ≤ 60) (K0 : Nat)
    (h : ∀ k, K0 ≤ k → soffitref01_dec.j1 k row m ((c : Int) + 1) up0 (decide (5 < val row / 10 ^ c % 10 ∨ (val row / 10 ^ c % 10 = 5 ∧ (0 < val row % 10 ^ c ∨ val row / 10 ^ (c + 1) % 10 % 2 = 1)))) = some R) (d : Nat) :
    ∀ (k i : Nat), i + d = c → K0 + d + 1 ≤ k → soffitref01_dec.l0 k row m ((c : Int) + 1) up0 (sumd (row.take i)) (i : Int) = some R := by
  have hget : ∀ j : Nat, j < row.length → rd row j = val row / 10 ^ j % 10 := by
    intro j hj
    have e := (val_drop hd j (by omega)).1
    rw [← e, List.drop_eq_getElem_cons hj]
    have : rd row j = row[j] := by unfold rd; rw [Int.toNat_natCast, List.getD_eq_getElem?_getD, List.getElem?_eq_getElem hj]; rfl
    have h9 := rd_dig hd j
    rw [this] at h9 ⊢
    simp only [val]; omega
  have ec : ((c : Int) + 1) - 1 = (c : Int) := by omega
  induction d with
  | zero =>
    intro k i hi hk
    obtain rfl : i = c := by omega
    obtain ⟨k, rfl⟩ := succ_of (show 0 < k by omega)
    have hs := sumd_pos (hd.take i)
    have hv := (val_drop hd i (by omega)).2
    rw [hv] at hs
    simp only [soffitref01_dec.l0]
    have e1 := hget i (by omega)
    have e2 := hget (i + 1) (by omega)
    have e3 : (((i + 1 : Nat)) : Int) = (i : Int) + 1 := by omega
    rw [e3] at e2
    rw [w64 (x := (i : Int) + 1 - 1) (by omega) (by omega), ec, if_neg (by omega), if_pos (by omega), if_pos (by omega), if_pos (by omega), if_pos (by omega), e1, e2]
    have hm9 : 0 ≤ val row / 10 ^ (i + 1) % 10 := by omega
    rw [Int.tmod_eq_emod_of_nonneg hm9]
    have hh := h k (by omega)
    by_cases g1 : val row / 10 ^ i % 10 > 5
    · rw [if_pos g1]; rw [decide_eq_true (by omega)] at hh; exact hh
    · rw [if_neg g1]
      by_cases g2 : val row / 10 ^ i % 10 = 5
      · rw [if_pos g2]
        by_cases g3 : sumd (row.take i) > 0
        · rw [if_pos g3]; rw [decide_eq_true (.inr ⟨g2, .inl (hs.2.2.1 g3)⟩)] at hh; exact hh
        · rw [if_neg g3]
          have g4 : ¬ 0 < val row % 10 ^ i := fun g => g3 (hs.2.2.2 g)
          have : decide (5 < val row / 10 ^ i % 10 ∨ (val row / 10 ^ i % 10 = 5 ∧ (0 < val row % 10 ^ i ∨ val row / 10 ^ (i + 1) % 10 % 2 = 1))) = (val row / 10 ^ (i + 1) % 10 % 2 == 1) := by
            rw [Bool.eq_iff_iff, decide_eq_true_eq, beq_iff_eq]
            constructor
            · rintro (g | ⟨_, g | g⟩)
              · exact absurd g g1
              · exact absurd g g4
              · exact g
            · intro g; exact .inr ⟨g2, .inr g⟩
          rw [this] at hh; exact hh
      · rw [if_neg g2]; rw [decide_eq_false (by omega)] at hh; exact hh
  | succ d ih =>
    intro k i hi hk
    obtain ⟨k, rfl⟩ := succ_of (show 0 < k by omega)
    have hs := sumd_pos (hd.take i); have h9 := rd_dig hd i
    have hlt : (row.take i).length ≤ 60 := by rw [List.length_take]; omega
    simp only [soffitref01_dec.l0]
    rw [w64 (x := (c : Int) + 1 - 1) (by omega) (by omega), ec, if_pos (by omega), if_pos (by omega), if_pos (by omega), w64 (x := sumd (row.take i) + rd row i) (by omega) (by omega), w64 (x := (i : Int) + 1) (by omega) (by omega)]
    have e : row.take (i + 1) = row.take i ++ [rd row i] := by
      rw [List.take_succ_eq_append_getElem (show i < row.length by omega)]
      unfold rd; rw [Int.toNat_natCast, List.getD_eq_getElem?_getD, List.getElem?_eq_getElem (by omega)]; rfl
    have es : ∀ (a : List Int) (x : Int), sumd (a ++ [x]) = sumd a + x := by
      intro a x
      induction a with
      | nil => simp [sumd]
      | cons y a ih => simp only [List.cons_append, sumd, ih]; omega
    have := ih k (i + 1) (by omega) (by omega)
    rw [e, es, show ((i + 1 : Nat) : Int) = (i : Int) + 1 by omega] at this
    exact this
theorem dec_row {k : Nat} (hk : 300 ≤ k) {row : List Int} {b : Int} {m : Bool} (hd : Dig row) (hl : row.length ≤ 60) (h0 : 0 ≤ b) (hroom : (b - 6).toNat + 8 ≤ row.length) (hval : val row < 10 ^ (row.length - 1)) :
    soffitref01_dec.f k row b m = some (decS (if 6 < b then rhe (val row) (10 ^ (b - 6).toNat) else val row) (mn b 6).toNat m) := by
  have hvn := val_nonneg hd
  unfold soffitref01_dec.f
  rw [w64 (x := b - 6) (by omega) (by omega)]
  by_cases h : b - 6 > 0
  · obtain ⟨c, hc⟩ : ∃ c : Nat, b - 6 = (c : Int) + 1 := ⟨(b - 6).toNat - 1, by omega⟩
    have hc' : (b - 6).toNat = c + 1 := by omega
    rw [if_pos h, if_pos (by omega), hc', rhe_digits _ _ hvn]
    have emn : (mn b 6).toNat = 6 := by unfold mn; rw [if_pos (by omega)]; rfl
    rw [emn]
    have hdrop := val_drop hd (c + 1) (by omega)
    have hdl : (row.drop (c + 1)).length = row.length - (c + 1) := List.length_drop ..
    have hvd : val (row.drop (c + 1)) + 1 < 10 ^ (row.drop (c + 1)).length := by
      rw [hdrop.1, hdl]
      have e1 : (10 : Int) ^ (row.length - 1) = 10 ^ (row.length - (c + 1) - 1) * 10 ^ (c + 1) := by rw [← Int.pow_add]; congr 1; omega
      have e2 : (10 : Int) ^ (row.length - (c + 1)) = 10 ^ (row.length - (c + 1) - 1) * 10 := by rw [← Int.pow_succ]; congr 1; omega
      have hlt : val row / 10 ^ (c + 1) < 10 ^ (row.length - (c + 1) - 1) := Int.ediv_lt_of_lt_mul (pow_pos _) (by rw [← e1]; exact hval)
      have hp := pow_pos (row.length - (c + 1) - 1)
      omega
    refine hc ▸ decl0 row m c 0 _ hd (by omega) hl 120 ?_ c k 0 (by omega) (by omega)
    intro k hk
    obtain ⟨k, rfl⟩ := succ_of (show 0 < k by omega)
    have ecc : ((c : Int) + 1).toNat = c + 1 := by omega
    simp only [soffitref01_dec.j1]
    by_cases g : 5 < val row / 10 ^ c % 10 ∨ (val row / 10 ^ c % 10 = 5 ∧ (0 < val row % 10 ^ c ∨ val row / 10 ^ (c + 1) % 10 % 2 = 1))
    · rw [if_pos (decide_eq_true g), if_pos (by omega), if_pos (by omega), ecc, decj2 (hd.drop _) (by decide) (by decide) (by omega) (by omega) (by decide) (by decide) hvd (by omega), if_pos g, hdrop.1]; rfl
    · rw [if_neg (by rw [decide_eq_false g]; simp), if_pos (by omega), if_pos (by omega), ecc, decj2 (hd.drop _) (by decide) (by decide) (by omega) (by omega) (by decide) (by decide) (by omega) (by omega), if_neg g, hdrop.1]; rfl
  · rw [if_neg h, if_neg (by omega)]
    have emn : mn b 6 = b := by unfold mn; rw [if_neg (by omega)]
    have hp := pow_pos (row.length - 1)
    have e2 : (10 : Int) ^ row.length = 10 ^ (row.length - 1) * 10 := by rw [← Int.pow_succ]; congr 1; omega
    rw [emn, decj2 hd h0 (by omega) (by omega) hl (by decide) (by decide) (by omega) (by omega), Int.add_zero]
end Go.Proofs.YtgkemhgihbfmmaaDoor.PA
end
section
namespace Go.Proofs.YtgkemhgihbfmmaaDoor.PA
open Go.RowKit Go.Proofs.YtgkemhgihbfmmaaDoorW.PrintWords Go.Proofs.YtgkemhgihbfmmaaDoorW.PrintLast Go.Proofs.YtgkemhgihbfmmaaDoorW.PrintMore
open Go.Proofs.YtgkemhgihbfmmaaDoor.M
theorem bytes_inj {a b : ByteArray} (h : a.data.toList = b.data.toList) : a = b := by
  cases a; cases b; simp only [ByteArray.mk.injEq]; exact Array.toList_inj.1 h
def by' (l : List UInt8) : ByteArray := ⟨l.toArray⟩
theorem by_size (l : List UInt8) : (by' l).size = l.length := by simp [by', ByteArray.size]
theorem by_app (a b : List UInt8) : by' a ++ by' b = by' (a ++ b) := by
  apply bytes_inj; simp [by']
theorem by_ext (l : List UInt8) (i j : Nat) : (by' l).extract i j = by' ((l.take j).drop i) := by
  apply bytes_inj; simp [by', List.drop_take]
def dgt (n : Int) : UInt8 := UInt8.ofNat (48 + (n % 10).toNat)
def lowd : Nat → Int → List UInt8
  | 0, _ => []
  | s + 1, n => lowd s (n / 10) ++ [dgt n]
theorem lowd_length (s : Nat) : ∀ n, (lowd s n).length = s := by
  induction s with
  | zero => intro n; rfl
  | succ s ih => intro n; simp [lowd, ih]
theorem lowd_cons (s : Nat) : ∀ n : Int, lowd (s + 1) n = dgt (n / 10 ^ s) :: lowd s n := by
  induction s with
  | zero => intro n; simp [lowd]
  | succ s ih =>
    intro n
    rw [lowd, ih (n / 10), lowd]
    simp only [List.cons_append]
    rw [Int.ediv_ediv_of_nonneg (by decide), Int.pow_succ, Int.mul_comm 10]
def num (n : Int) : List UInt8 := Lib.decDigits n.toNat
theorem num_small {n : Int} (h : 0 ≤ n) (h' : n < 10) : num n = [dgt n] := by
  unfold num dgt; rw [Lib.decDigits_one (by omega), show (n % 10).toNat = n.toNat by omega]
theorem num_big {n : Int} (h : 10 ≤ n) : num n = num (n / 10) ++ [dgt n] := by
  unfold num dgt; rw [Lib.decDigits, dif_neg (by omega), show n.toNat / 10 = (n / 10).toNat by omega, show (n % 10).toNat = n.toNat % 10 by omega]
theorem num_length_pos (n : Int) : 1 ≤ (num n).length := by
  unfold num; rw [Lib.decDigits_length]; exact Lib.nDigits_pos _
theorem repeat_one (c : UInt8) (k : Nat) : Lib.repeatL [c] k = List.replicate k c := by
  induction k with
  | zero => rfl
  | succ k ih => rw [Lib.repeatL, ih]; rfl
theorem num_len_small {n : Int} (h : 0 ≤ n) (h' : n < 10) : (num n).length = 1 := by rw [num_small h h']; rfl
theorem num_len_big {n : Int} (h : 10 ≤ n) : (num n).length = (num (n / 10)).length + 1 := by rw [num_big h]; simp
theorem pad_num (s : Nat) : ∀ n : Int, 0 ≤ n → List.replicate (s + 1 - (num n).length) (48 : UInt8) ++ num n = num (n / 10 ^ s) ++ lowd s n := by
  induction s with
  | zero =>
    intro n h
    have := num_length_pos n
    rw [show 0 + 1 - (num n).length = 0 by omega]; simp [lowd]
  | succ s ih =>
    intro n h
    have hq : n / 10 ^ (s + 1) = n / 10 / 10 ^ s := by rw [Int.ediv_ediv_of_nonneg (by decide), Int.pow_succ, Int.mul_comm 10]
    rw [lowd, ← List.append_assoc, hq, ← ih (n / 10) (by omega), List.append_assoc]
    by_cases h' : n < 10
    · rw [num_len_small h h', num_small h h', show n / 10 = 0 by omega, num_len_small (n := 0) (by omega) (by omega), num_small (n := 0) (by omega) (by omega)]
      rw [show s + 1 + 1 - 1 = s + 1 by omega, show s + 1 - 1 = s by omega, List.replicate_succ', List.append_assoc]; rfl
    · rw [num_len_big (by omega), num_big (n := n) (by omega), show s + 1 + 1 - ((num (n / 10)).length + 1) = s + 1 - (num (n / 10)).length by omega]
theorem num_len_le (c : Nat) : ∀ n : Int, 0 ≤ n → n < 10 ^ (c + 1) → (num n).length ≤ c + 1 := by
  induction c with
  | zero => intro n h h'; rw [num_len_small h (by omega)]; omega
  | succ c ih =>
    intro n h h'
    by_cases g : n < 10
    · rw [num_len_small h g]; omega
    · rw [num_len_big (by omega)]
      have := ih (n / 10) (by omega) (by rw [Int.pow_succ] at h'; omega)
      omega
def txt (n s : Int) : List UInt8 :=
  (if n < 0 then [45] else []) ++ (num ((n.natAbs : Int) / 10 ^ s.toNat) ++ (if 0 < s then 46 :: lowd s.toNat (n.natAbs : Int) else []))
theorem text_j0 {k : Nat} (hk : 0 < k) (l : List UInt8) (hl : l.length < 1000) (n s : Int) : deci_Text.j0 k (by' l) n s = some (by' ((if n < 0 then [45] else []) ++ l), 0) := by
  obtain ⟨m, rfl⟩ := succ_of hk
  rw [deci_Text.j0, by_size]
  by_cases h : n < 0
  · rw [if_pos h, if_pos (by omega), if_pos h, show (⟨#[45]⟩ : ByteArray) = by' [45] from rfl, by_app]
  · rw [if_neg h, if_neg h]; rfl
theorem text_ff {k : Nat} (hk : 15 ≤ k) (n s : Int) : deci_Text.f k n s = some (if Snd n s then (by' (txt n s), 0) else (by' [], 2)) := by
  unfold deci_Text.f
  rw [all_one hk]
  simp only [obs]
  by_cases hS : Snd n s
  · rw [if_pos hS, if_pos rfl, if_pos hS, size_f hS]
    simp only [obs]
    obtain ⟨h0, h1, h2, h3, _⟩ := hS
    have hA : (n.natAbs : Int) < 10 ^ (11 + 1) := by omega
    have hlen := num_len_le 11 (n.natAbs : Int) (by omega) hA
    have hf : strconv_FormatUint.f (n.natAbs : Int) 10 = some (by' (num (n.natAbs : Int))) := by
      unfold strconv_FormatUint.f; rw [if_pos ⟨rfl, by omega, by omega⟩]; rfl
    rw [hf]
    simp only [obs]
    unfold txt
    by_cases hs : 0 < s
    · rw [if_pos (by omega), if_pos hs]
      obtain ⟨t, rfl⟩ := Int.eq_ofNat_of_zero_le h0
      have hp := pad_num t (n.natAbs : Int) (by omega)
      have hpos := num_length_pos (n.natAbs : Int)
      have hmx : mx 0 (wrap64 ((wrap64 ((t : Int) + 1)) - ((by' (num (n.natAbs : Int))).size : Int))) = ((t + 1 - (num (n.natAbs : Int)).length : Nat) : Int) := by
        rw [by_size, w64 (x := (t : Int) + 1) (by omega) (by omega), w64 (by omega) (by omega)]; unfold mx; split <;> omega
      rw [hmx]
      have hr : strings_Repeat.f (⟨#[48]⟩ : ByteArray) ((t + 1 - (num (n.natAbs : Int)).length : Nat) : Int) = some (by' (List.replicate (t + 1 - (num (n.natAbs : Int)).length) 48)) := by
        unfold strings_Repeat.f
        rw [if_pos ⟨by omega, by omega, by decide⟩, show (⟨#[48]⟩ : ByteArray).data.toList = [48] from rfl, repeat_one]; rfl
      rw [hr]
      simp only [obs, by_app, hp]
      have hL : (num ((n.natAbs : Int) / 10 ^ t) ++ lowd t (n.natAbs : Int)).length = (num ((n.natAbs : Int) / 10 ^ t)).length + t := by rw [List.length_append, lowd_length]
      have hq : (num ((n.natAbs : Int) / 10 ^ t)).length ≤ 11 + 1 := num_len_le 11 _ (Int.ediv_nonneg (by omega) (by have := M.pow_pos t; omega)) (by
        have := Int.ediv_le_self (10 ^ t) (show (0 : Int) ≤ (n.natAbs : Int) by omega); omega)
      have hcut : wrap64 (((by' (num ((n.natAbs : Int) / 10 ^ t) ++ lowd t (n.natAbs : Int))).size : Int) - (t : Int)) = ((num ((n.natAbs : Int) / 10 ^ t)).length : Int) := by
        rw [by_size, hL, w64 (by omega) (by omega)]; omega
      rw [if_pos (by rw [by_size, by_size, List.length_replicate]; omega)]
      simp only [hcut, Int.toNat_natCast]
      rw [if_pos (by omega), if_pos (by rw [by_size, hL]; omega)]
      have e1 : (by' (num ((n.natAbs : Int) / 10 ^ t) ++ lowd t (n.natAbs : Int))).extract 0 (num ((n.natAbs : Int) / 10 ^ t)).length = by' (num ((n.natAbs : Int) / 10 ^ t)) := by
        rw [by_ext]; simp
      have e2 : (by' (num ((n.natAbs : Int) / 10 ^ t) ++ lowd t (n.natAbs : Int))).extract (num ((n.natAbs : Int) / 10 ^ t)).length (by' (num ((n.natAbs : Int) / 10 ^ t) ++ lowd t (n.natAbs : Int))).size = by' (lowd t (n.natAbs : Int)) := by
        rw [by_ext, by_size, List.take_length, List.drop_left]
      simp only [e1, e2]
      rw [show (⟨#[46]⟩ : ByteArray) = by' [46] from rfl]
      simp only [by_app]
      rw [if_pos (by rw [by_size]; omega), if_pos (by rw [by_size, by_size, lowd_length, List.length_append]; simp only [List.length_cons, List.length_nil]; omega)]
      rw [text_j0 (by omega) _ (by simp only [List.length_append, lowd_length, List.length_cons, List.length_nil]; omega)]
      simp
    · rw [if_neg (by omega), if_neg hs, text_j0 (by omega) _ (by omega), show s = 0 by omega]
      simp
  · rw [if_neg hS, if_neg (by decide), if_neg hS]; rfl
theorem str_dgt {x : Int} (h : 0 ≤ x) : strOfNums [(wrap64 (48 + (Int.tmod x 10))) % 256] = by' [dgt x] := by
  have e : Int.tmod x 10 = x % 10 := Int.tmod_eq_emod_of_nonneg h
  rw [e, w64 (by omega) (by omega)]
  apply bytes_inj
  rw [strOfNums_data]
  simp only [by', dgt, List.map_cons, List.map_nil]
  rw [show ((48 + x % 10) % 256).toNat = 48 + (x % 10).toNat by omega]
theorem rtext_l1 (c : Nat) : ∀ (k : Nat) (x : Int) (t : List UInt8) (n s : Int), c < k → 0 ≤ x → x < 10 ^ (c + 1) → x < 1000000000000 → t.length + c ≤ 1000 →
    soffitref01_Text.l1 k x (by' (dgt x :: t)) n s = some (by' ((if n < 0 then [45] else []) ++ (num x ++ t)), 0) := by
  induction c with
  | zero =>
    intro k x t n s hk h h' _ ht
    obtain ⟨k, rfl⟩ := succ_of (by omega : 0 < k)
    rw [soffitref01_Text.l1, if_neg (by omega), num_small h (by omega), by_size]
    by_cases g : n < 0
    · rw [if_pos g, if_pos (by simp only [List.length_cons]; omega), if_pos g, show (⟨#[45]⟩ : ByteArray) = by' [45] from rfl, by_app]; rfl
    · rw [if_neg g, if_neg g]; rfl
  | succ c ih =>
    intro k x t n s hk h h' hc ht
    obtain ⟨k, rfl⟩ := succ_of (by omega : 0 < k)
    by_cases g : x < 10
    · rw [soffitref01_Text.l1, if_neg (by omega), num_small h g, by_size]
      by_cases g : n < 0
      · rw [if_pos g, if_pos (by simp only [List.length_cons]; omega), if_pos g, show (⟨#[45]⟩ : ByteArray) = by' [45] from rfl, by_app]; rfl
      · rw [if_neg g, if_neg g]; rfl
    · rw [soffitref01_Text.l1, if_pos (by omega)]
      have e : Int.tdiv x 10 = x / 10 := Int.tdiv_eq_ediv_of_nonneg h
      rw [e, w64 (x := x / 10) (by omega) (by omega)]
      simp only [obs]
      rw [str_dgt (by omega), by_app, by_size, by_size, if_pos (by simp only [List.length_cons, List.length_nil]; omega)]
      rw [List.singleton_append, ih k (x / 10) (dgt x :: t) n s (by omega) (by omega) (by rw [Int.pow_succ] at h'; omega) (by omega) (by simp only [List.length_cons]; omega), num_big (n := x) (by omega)]
      simp
theorem rtext_j1 {k : Nat} {x : Int} {t : List UInt8} {n s : Int} (hk : 20 ≤ k) (h : 0 ≤ x) (h' : x < 1000000000000) (ht : t.length ≤ 900) :
    soffitref01_Text.j1 k x (by' t) n s = some (by' ((if n < 0 then [45] else []) ++ (num x ++ t)), 0) := by
  obtain ⟨k, rfl⟩ := succ_of (by omega : 0 < k)
  rw [soffitref01_Text.j1]
  simp only [obs]
  rw [str_dgt h, by_app, by_size, by_size, if_pos (by simp only [List.length_cons, List.length_nil]; omega), List.singleton_append]
  exact rtext_l1 11 k x t n s (by omega) h (by omega) h' (by omega)
theorem rtext_l0 (A : Int) (hA : 0 ≤ A) (hA' : A < 1000000000000) (n : Int) (t : Nat) (ht : t ≤ 6) (d : Nat) : ∀ (k i : Nat), d + 30 ≤ k → i + d = t →
    soffitref01_Text.l0 k (A / 10 ^ i) (by' (lowd i A)) (i : Int) n (t : Int) = some (by' ((if n < 0 then [45] else []) ++ (num (A / 10 ^ t) ++ (if 0 < t then 46 :: lowd t A else []))), 0) := by
  have hq : ∀ i : Nat, 0 ≤ A / 10 ^ i ∧ A / 10 ^ i < 1000000000000 := fun i => by
    have := M.pow_pos i
    have := Int.ediv_nonneg hA (show (0 : Int) ≤ 10 ^ i by omega)
    have := Int.ediv_le_self (10 ^ i) hA
    omega
  induction d with
  | zero =>
    intro k i hk hi
    obtain rfl : i = t := by omega
    obtain ⟨k, rfl⟩ := succ_of (by omega : 0 < k)
    rw [soffitref01_Text.l0, if_neg (by omega)]
    by_cases g : 0 < i
    · rw [if_pos (by omega), if_pos (by rw [by_size, lowd_length]; omega), if_pos g, show (⟨#[46]⟩ : ByteArray) = by' [46] from rfl, by_app, List.singleton_append]
      exact rtext_j1 (by omega) (hq i).1 (hq i).2 (by simp only [List.length_cons, lowd_length]; omega)
    · obtain rfl : i = 0 := by omega
      rw [if_neg (by omega), if_neg g]
      exact rtext_j1 (by omega) (hq 0).1 (hq 0).2 (by simp [lowd])
  | succ d ih =>
    intro k i hk hi
    obtain ⟨k, rfl⟩ := succ_of (by omega : 0 < k)
    rw [soffitref01_Text.l0, if_pos (by omega)]
    simp only [obs]
    have e : Int.tdiv (A / 10 ^ i) 10 = A / 10 ^ (i + 1) := by
      rw [Int.tdiv_eq_ediv_of_nonneg (hq i).1, Int.ediv_ediv_of_nonneg (by have := M.pow_pos i; omega), Int.pow_succ]
    rw [str_dgt (hq i).1, by_app, by_size, by_size, if_pos (by rw [lowd_length]; simp only [List.length_cons, List.length_nil]; omega), List.singleton_append, ← lowd_cons, e,
      w64 (by have := hq (i + 1); omega) (by have := hq (i + 1); omega), w64 (x := (i : Int) + 1) (by omega) (by omega)]
    exact ih k (i + 1) (by omega) (by omega)
theorem reftext_ff {k : Nat} (hk : 40 ≤ k) (n s : Int) : soffitref01_Text.f k n s = some (if Snd n s then (by' (txt n s), 0) else (by' [], 2)) := by
  unfold soffitref01_Text.f
  rw [refsound_f (by omega)]
  simp only [obs]
  by_cases hS : Snd n s
  · rw [if_pos (by simpa using hS), if_pos hS]
    obtain ⟨h0, h1, h2, h3, _⟩ := hS
    rw [refsize_f (by omega) (by omega)]
    simp only [obs]
    obtain ⟨t, rfl⟩ := Int.eq_ofNat_of_zero_le h0
    have := rtext_l0 (n.natAbs : Int) (by omega) (by omega) n t (by omega) t k 0 (by omega) (by omega)
    rw [Int.pow_zero, Int.ediv_one] at this
    unfold txt
    rw [show (⟨#[]⟩ : ByteArray) = by' (lowd 0 (n.natAbs : Int)) from rfl]
    refine this.trans ?_
    by_cases g : 0 < t
    · rw [if_pos g, if_pos (show (0 : Int) < (t : Int) by omega)]; rfl
    · rw [if_neg g, if_neg (show ¬ (0 : Int) < (t : Int) by omega)]; rfl
  · rw [if_neg (by simpa using hS), if_neg hS]; rfl
end Go.Proofs.YtgkemhgihbfmmaaDoor.PA
end
section
namespace Go.Proofs.YtgkemhgihbfmmaaDoor.PA
open Go.RowKit Go.Proofs.YtgkemhgihbfmmaaDoorW.PrintWords Go.Proofs.YtgkemhgihbfmmaaDoorW.PrintLast Go.Proofs.YtgkemhgihbfmmaaDoorW.PrintMore
open Go.Proofs.YtgkemhgihbfmmaaDoor.M
def isd (c : UInt8) : Bool := decide (48 ≤ c.toNat ∧ c.toNat ≤ 57)
def dg (c : UInt8) : Int := (c.toNat : Int) - 48
theorem isd_iff {c : UInt8} : isd c = true ↔ 48 ≤ c.toNat ∧ c.toNat ≤ 57 := by simp [isd]
def value (l : List UInt8) : Int := val (l.map dg).reverse
theorem value_cons (c : UInt8) (t : List UInt8) : value (c :: t) = value t + 10 ^ t.length * dg c := by
  unfold value; rw [List.map_cons, List.reverse_cons, val_append, List.length_reverse, List.length_map]; simp [val]
theorem dig_rev {l : List UInt8} (h : l.all isd = true) : Dig (l.map dg).reverse := fun d hd => by
  rw [List.mem_reverse, List.mem_map] at hd
  obtain ⟨c, hc, rfl⟩ := hd
  have := isd_iff.1 (List.all_eq_true.1 h c hc)
  unfold dg; omega
theorem value_bound {l : List UInt8} (h : l.all isd = true) : 0 ≤ value l ∧ value l < 10 ^ l.length := by
  have := val_lt (dig_rev h); rw [List.length_reverse, List.length_map] at this
  exact ⟨val_nonneg (dig_rev h), this⟩
def splt : List UInt8 → List UInt8 × Option (List UInt8)
  | [] => ([], none)
  | c :: t => if c = 46 then ([], some t) else (c :: (splt t).1, (splt t).2)
theorem cut_splt (r : List UInt8) : Lib.cut r [46] = ((splt r).1, (splt r).2.getD [], (splt r).2.isSome) := by
  induction r with
  | nil => rfl
  | cons c t ih =>
    unfold Lib.cut at ih ⊢
    rw [Lib.index_one] at ih ⊢
    rw [Lib.indexByte, splt]
    by_cases h : c = 46
    · subst h; simp
    · rw [if_neg h, show (c == 46) = false by simpa using h]
      simp only [Bool.false_eq_true, if_false]
      have hge : Lib.indexByte t 46 = -1 ∨ 0 ≤ Lib.indexByte t 46 := by
        rw [← Lib.index_one]
        rcases Lib.index_spec t [46] with ⟨e, _⟩ | ⟨i, e, _⟩
        · exact Or.inl e
        · rw [e]; exact Or.inr (by omega)
      rcases hge with g | g
      · rw [g] at ih ⊢
        rw [if_neg (by decide)] at ih
        obtain ⟨e1, e2⟩ := Prod.mk.inj ih
        obtain ⟨e2, e3⟩ := Prod.mk.inj e2
        simp only [beq_self_eq_true, if_true]
        rw [if_neg (by decide), ← e1, ← e2, ← e3]
      · rw [if_pos g] at ih
        obtain ⟨e1, e2⟩ := Prod.mk.inj ih
        obtain ⟨e2, e3⟩ := Prod.mk.inj e2
        have hne : (Lib.indexByte t 46 == -1) = false := by rw [beq_eq_false_iff_ne]; omega
        rw [hne]
        simp only [Bool.false_eq_true, if_false]
        rw [if_pos (by omega), ← e1, ← e2, ← e3, show (Lib.indexByte t 46 + 1).toNat = (Lib.indexByte t 46).toNat + 1 by omega]
        simp only [List.take_succ_cons, List.length_singleton, List.drop_succ_cons]
theorem splt_back (r : List UInt8) : (splt r).1 ++ (match (splt r).2 with | none => [] | some p => 46 :: p) = r := by
  induction r with
  | nil => rfl
  | cons c t ih =>
    rw [splt]
    by_cases h : c = 46
    · rw [if_pos h, h]; rfl
    · rw [if_neg h]; simp only [List.cons_append, ih]
def parse2 (m : Bool) (w p : List UInt8) : Int × Int × Int :=
  if w = [] ∨ (1 < w.length ∧ w.head? = some 48) then (0, 0, 5)
  else if 6 < (Lib.trimRightS p [48]).length ∨ 12 < w.length then (0, 0, 3)
  else decS (value (w ++ Lib.trimRightS p [48])) (Lib.trimRightS p [48]).length m
def sel (m : Bool) (w : List UInt8) (o : Option (List UInt8)) : Int × Int × Int :=
  if w.all isd = true ∧ o ≠ some [] ∧ (o.getD []).all isd = true then parse2 m w (o.getD []) else (0, 0, 5)
theorem sel_bad {m : Bool} {w : List UInt8} {o : Option (List UInt8)} (h : ¬ w.all isd = true) : sel m w o = (0, 0, 5) := if_neg (fun g => h g.1)
def parseS (m : Bool) (r : List UInt8) : Int × Int × Int := sel m (splt r).1 (splt r).2
def parseF (l : List UInt8) : Int × Int × Int :=
  match l with
  | 45 :: t => parseS true t
  | _ => parseS false l
theorem parseF_other {c : UInt8} {t : List UInt8} (h : c ≠ 45) : parseF (c :: t) = parseS false (c :: t) := by
  unfold parseF
  split
  · rename_i e; exact absurd (List.cons.inj e).1 h
  · rfl
theorem parseM_digits (M : Nat) (hM : M = 18446744073709551615) : ∀ (l : List UInt8) (acc : Nat), l.all isd = true → acc * 10 ^ l.length + 10 ^ l.length ≤ 1000000000000000000 →
    Lib.parseUintM M acc l = .ok (acc * 10 ^ l.length + (value l).toNat) := by
  intro l
  induction l with
  | nil => intro acc _ _; simp [Lib.parseUintM, value, val]
  | cons c t ih =>
    intro acc h hb
    rw [List.all_cons, Bool.and_eq_true] at h
    have hc := isd_iff.1 h.1
    have hp : 1 ≤ 10 ^ t.length := Nat.pos_of_ne_zero (by simp)
    rw [List.length_cons, Nat.pow_succ] at hb
    have h1 : acc * 10 * 10 ^ t.length + 10 * 10 ^ t.length ≤ 1000000000000000000 := by
      rw [Nat.mul_assoc, Nat.mul_comm 10]; exact hb
    have h2 : (acc * 10 + 10) * 10 ^ t.length ≤ 1000000000000000000 := by rw [Nat.add_mul]; exact h1
    have h3 : acc * 10 + 10 ≤ 1000000000000000000 := Nat.le_trans (Nat.le_mul_of_pos_right _ hp) h2
    rw [Lib.parseUintM, if_pos hc, if_neg (by omega), if_neg (by omega), ih _ h.2 (by
      have : (acc * 10 + (c.toNat - 48) + 1) * 10 ^ t.length ≤ (acc * 10 + 10) * 10 ^ t.length := Nat.mul_le_mul_right _ (by omega)
      rw [Nat.add_mul, Nat.one_mul] at this
      omega)]
    rw [value_cons]
    have hv := value_bound h.2
    have e : (value t + 10 ^ t.length * dg c).toNat = (value t).toNat + 10 ^ t.length * (c.toNat - 48) := by
      have : (10 : Int) ^ t.length * dg c = ((10 ^ t.length * (c.toNat - 48) : Nat) : Int) := by
        rw [Int.natCast_mul, Int.natCast_pow]; unfold dg; rw [show ((c.toNat - 48 : Nat) : Int) = (c.toNat : Int) - 48 by omega]; rfl
      rw [this]; omega
    rw [e, List.length_cons, Nat.pow_succ, Nat.add_mul, Nat.mul_assoc acc 10, Nat.mul_comm 10 (10 ^ t.length), Nat.mul_comm (c.toNat - 48)]
    congr 1; omega
theorem uint_digits {l : List UInt8} (h : l.all isd = true) (h0 : l ≠ []) (hl : l.length ≤ 18) : strconv_ParseUint.f (by' l) 10 64 = some (value l, none) := by
  have hv := value_bound h
  have hp : 10 ^ l.length ≤ 10 ^ 18 := Nat.pow_le_pow_right (by decide) hl
  unfold strconv_ParseUint.f
  rw [if_pos ⟨rfl, rfl, by rw [by_size]; omega⟩, show (by' l).data.toList = l by simp [by'], Lib.parseUintB, if_neg h0, parseM_digits _ rfl l 0 h (by rw [Nat.zero_mul, Nat.zero_add]; exact hp)]
  rw [Nat.zero_mul, Nat.zero_add]
  show some (((value l).toNat : Int), none) = _
  rw [Int.toNat_of_nonneg hv.1]
theorem by_list (s : ByteArray) : s = by' s.data.toList := bytes_inj (by simp [by'])
theorem by_data (l : List UInt8) : (by' l).data.toList = l := by simp [by']
theorem by_toList (l : List UInt8) : (by' l).toList = l := by rw [ByteArray.toList_eq]; exact by_data l
theorem bt_by (l : List UInt8) (i : Nat) : bt (by' l) (i : Int) = ((l[i]?.getD 0).toNat : Int) := by
  unfold bt
  rw [Int.toNat_natCast]
  by_cases h : i < l.length
  · rw [dif_pos (by rw [by_size]; exact h), List.getElem?_eq_getElem h]; rfl
  · rw [dif_neg (by rw [by_size]; exact h), List.getElem?_eq_none (by omega)]; rfl
def ten : List UInt8 := [48, 49, 50, 51, 52, 53, 54, 55, 56, 57]
theorem ten_isd (c : UInt8) : ten.contains c = isd c := by
  obtain ⟨⟨n⟩⟩ := c
  revert n; decide +kernel
theorem dw_nil (q : UInt8 → Bool) : ∀ l : List UInt8, l.dropWhile q = [] ↔ ∀ c ∈ l, q c = true
  | [] => by simp
  | a :: l => by
    rw [List.dropWhile_cons]
    by_cases h : q a = true
    · rw [if_pos h, dw_nil q l]; simp [h]
    · rw [if_neg h]; simp [h]
theorem tw_mem (q : UInt8 → Bool) : ∀ (l : List UInt8) (c : UInt8), c ∈ l.takeWhile q → q c = true
  | [], c, h => by simp at h
  | a :: l, c, h => by
    rw [List.takeWhile_cons] at h
    by_cases g : q a = true
    · rw [if_pos g] at h
      rcases List.mem_cons.1 h with rfl | h
      · exact g
      · exact tw_mem q l c h
    · rw [if_neg g] at h; simp at h
theorem trim_nil (l cs : List UInt8) : Lib.trimS l cs = [] ↔ l.all (fun c => cs.contains c) = true := by
  unfold Lib.trimS Lib.trimLeftS Lib.trimRightS
  constructor
  · intro h
    rw [dw_nil] at h
    rw [List.all_eq_true]
    intro c hc
    by_cases g : cs.contains c = true
    · exact g
    · exfalso
      apply g
      apply h
      rw [List.mem_reverse]
      have hsp := List.takeWhile_append_dropWhile (p := (cs.contains ·)) (l := l.reverse)
      have hm : c ∈ l.reverse := List.mem_reverse.2 hc
      rw [← hsp, List.mem_append] at hm
      rcases hm with hm | hm
      · exact absurd (tw_mem _ _ _ hm) g
      · exact hm
  · intro h
    have : l.reverse.dropWhile (cs.contains ·) = [] := by
      rw [dw_nil]
      intro c hc
      exact List.all_eq_true.1 h c (List.mem_reverse.1 hc)
    rw [this]; rfl
theorem digits_ff {l : List UInt8} (h : l.length ≤ 9223372036854775807) : deci_digits.f (by' l) = some (decide (l ≠ [] ∧ l.all isd = true)) := by
  unfold deci_digits.f
  rw [by_toList]
  by_cases h0 : l = []
  · rw [if_pos h0, h0]; rfl
  · rw [if_neg h0]
    have : strings_Trim.f (by' l) (⟨#[48, 49, 50, 51, 52, 53, 54, 55, 56, 57]⟩ : ByteArray) = some (by' (Lib.trimS l ten)) := by
      unfold strings_Trim.f
      rw [if_pos ⟨by rw [by_size]; exact h, by decide, by decide⟩, by_data]; rfl
    rw [this]
    simp only [obs, by_toList]
    have e : (l.all fun c => ten.contains c) = l.all isd := by congr 1; funext c; exact ten_isd c
    have := trim_nil l ten
    rw [e] at this
    by_cases g : l.all isd = true
    · rw [this.2 g, g]; simp [h0]
    · rw [beq_eq_false_iff_ne.2 (fun q => g (this.1 q))]; simp [g]
theorem trimR_all {p : List UInt8} (h : p.all isd = true) : (Lib.trimRightS p [48]).all isd = true := by
  rw [List.all_eq_true] at h ⊢
  intro c hc
  apply h
  unfold Lib.trimRightS at hc
  rw [List.mem_reverse] at hc
  exact List.mem_reverse.1 ((List.dropWhile_suffix (p := fun x => [48].contains x) (l := p.reverse)).subset hc)
theorem trimright_f {l : List UInt8} (h : l.length ≤ 9223372036854775807) : strings_TrimRight.f (by' l) (⟨#[48]⟩ : ByteArray) = some (by' (Lib.trimRightS l [48])) := by
  unfold strings_TrimRight.f
  rw [if_pos ⟨by rw [by_size]; exact h, by decide, by decide⟩, by_data]; rfl
theorem prefix_f {l : List UInt8} : strings_CutPrefix.f (by' l) (⟨#[45]⟩ : ByteArray) = some (match l with | 45 :: t => (by' t, true) | _ => (by' l, false)) := by
  unfold strings_CutPrefix.f stringslite_CutPrefix.f stringslite_HasPrefix.f
  rw [show (⟨#[45]⟩ : ByteArray) = by' [45] from rfl]
  simp only [by_size, by_ext, by_toList, List.length_singleton]
  match l with
  | [] => rfl
  | c :: t =>
    rw [if_pos (by simp only [List.length_cons]; omega), if_pos (by omega), if_pos (by simp only [List.length_cons]; omega)]
    simp only [obs]
    by_cases h : c = 45
    · subst h
      rw [if_pos (by simp), if_pos (by omega), if_pos (by simp only [List.length_cons]; omega)]
      simp
    · rw [if_neg (by simpa using h)]
      simp only [obs]
      rw [show (match c :: t with | 45 :: t => (by' t, true) | _ => (by' (c :: t), false)) = (by' (c :: t), false) from by
        split
        · rename_i e; exact absurd (List.cons.inj e).1 h
        · rfl]
theorem parse_j1 {k : Nat} (hk : 12 ≤ k) {m : Bool} {w q : List UInt8} (hw : w.all isd = true) (hq : q.all isd = true) (hw0 : w ≠ []) :
    deci_Parse.j1 k m (by' w) (by' q) (decide (6 < q.length ∨ 12 < w.length)) = some (if 6 < q.length ∨ 12 < w.length then (0, 0, 3) else decS (value (w ++ q)) q.length m) := by
  obtain ⟨k, rfl⟩ := succ_of (by omega : 0 < k)
  rw [deci_Parse.j1]
  by_cases h : 6 < q.length ∨ 12 < w.length
  · rw [if_pos (by simpa using h), if_pos h]
  · rw [if_neg (by simpa using h), if_neg h, if_pos (by rw [by_size, by_size]; omega), by_app]
    have hall : (w ++ q).all isd = true := by rw [List.all_append, hw, hq]; rfl
    rw [uint_digits hall (by simp [hw0]) (by rw [List.length_append]; omega)]
    simp only [obs]
    have hv := value_bound hall
    have hp : (10 : Int) ^ (w ++ q).length ≤ 10 ^ 18 := by
      have : (10 : Nat) ^ (w ++ q).length ≤ 10 ^ 18 := Nat.pow_le_pow_right (by decide) (by rw [List.length_append]; omega)
      exact_mod_cast this
    rw [by_size, dec_f (by omega) hv.1 (by omega) (by omega) (by omega)]
    simp only [obs, Int.toNat_natCast]
theorem parse_j0 {k : Nat} (hk : 13 ≤ k) {m : Bool} {w p : List UInt8} (hw : w.all isd = true) (hp : p.all isd = true) (hw0 : w ≠ []) (hl : p.length ≤ 9223372036854775807) :
    deci_Parse.j0 k m (by' w) (by' p) (decide (1 < w.length ∧ w.head? = some 48)) = some (parse2 m w p) := by
  obtain ⟨k, rfl⟩ := succ_of (by omega : 0 < k)
  rw [deci_Parse.j0]
  unfold parse2
  by_cases h : 1 < w.length ∧ w.head? = some 48
  · rw [if_pos (by simpa using h), if_pos (Or.inr h)]
  · rw [if_neg (by simpa using h), if_neg (fun g => g.elim hw0 h), trimright_f hl]
    simp only [obs]
    rw [← parse_j1 (k := k) (m := m) (by omega) hw (trimR_all hp) hw0]
    by_cases g : 6 < (Lib.trimRightS p [48]).length
    · rw [if_pos (by rw [by_size]; omega), decide_eq_true (Or.inl g)]
    · rw [if_neg (by rw [by_size]; omega), by_size]
      congr 1
      rw [decide_eq_decide]; omega
theorem parse_ff {k : Nat} (hk : 14 ≤ k) (l : List UInt8) (hl : l.length ≤ 9223372036854775806) :
    deci_Parse.f k (by' l) = some (parseF l) := by
  unfold deci_Parse.f
  rw [prefix_f]
  simp only [obs]
  have main : ∀ (m : Bool) (r : List UInt8), r.length ≤ 9223372036854775806 → ((strings_Cut.f (by' r) (⟨#[46]⟩ : ByteArray)).bind fun bt157 => ((deci_digits.f bt157.1).bind fun t160 => (if t160 = true then (if bt157.2.2 = true then ((deci_digits.f bt157.2.1).bind fun t161 => (if t161 = true then (if (bt157.1.size : Int) > 1 then (if 0 < (bt157.1.size : Int) then (deci_Parse.j0 k m bt157.1 bt157.2.1 ((bt bt157.1 0) == 48)) else (none)) else (deci_Parse.j0 k m bt157.1 bt157.2.1 false)) else (deci_Parse.j0 k m bt157.1 bt157.2.1 true))) else (if (bt157.1.size : Int) > 1 then (if 0 < (bt157.1.size : Int) then (deci_Parse.j0 k m bt157.1 bt157.2.1 ((bt bt157.1 0) == 48)) else (none)) else (deci_Parse.j0 k m bt157.1 bt157.2.1 false))) else (deci_Parse.j0 k m bt157.1 bt157.2.1 true)))) = some (parseS m r) := by
    intro m r hr
    have hc : strings_Cut.f (by' r) (⟨#[46]⟩ : ByteArray) = some (by' (splt r).1, by' ((splt r).2.getD []), (splt r).2.isSome) := by
      unfold strings_Cut.f
      rw [if_pos ⟨rfl, by rw [by_size]; exact hr⟩, by_data, show (⟨#[46]⟩ : ByteArray).data.toList = [46] from rfl, cut_splt]; rfl
    rw [hc]
    simp only [obs]
    have hb := splt_back r
    unfold parseS sel
    generalize (splt r).1 = w at hb ⊢
    generalize hp : (splt r).2 = o at hb ⊢
    have hlw : w.length ≤ r.length := by rw [← hb, List.length_append]; omega
    have bad : deci_Parse.j0 k m (by' w) (by' (o.getD [])) true = some (0, 0, 5) := by
      obtain ⟨j, rfl⟩ := succ_of (by omega : 0 < k)
      rw [deci_Parse.j0, if_pos rfl]
    have good : ∀ p : List UInt8, p.length ≤ 9223372036854775807 → w ≠ [] → w.all isd = true → p.all isd = true → (if (((by' w).size : Nat) : Int) > 1 then (if 0 < (((by' w).size : Nat) : Int) then (deci_Parse.j0 k m (by' w) (by' p) ((bt (by' w) 0) == 48)) else (none)) else (deci_Parse.j0 k m (by' w) (by' p) false)) = some (parse2 m w p) := by
      intro p hl h0 hw hpd
      have hj := parse_j0 (k := k) (m := m) (by omega) hw hpd h0 hl
      rw [by_size]
      by_cases g : 1 < w.length
      · rw [if_pos (by omega), if_pos (by omega), ← hj, show (0 : Int) = ((0 : Nat) : Int) from rfl, bt_by]
        congr 1
        obtain ⟨c, t, rfl⟩ := List.exists_cons_of_ne_nil h0
        simp only [g, true_and, List.head?_cons, Option.some.injEq, List.getElem?_cons_zero, Option.getD_some]
        rw [Bool.eq_iff_iff, beq_iff_eq, decide_eq_true_iff]
        constructor
        · intro e; exact UInt8.toNat_inj.1 (by simpa using (by omega : c.toNat = 48))
        · intro e; rw [e]; rfl
      · rw [if_neg (by omega), ← hj, decide_eq_false (fun q => g q.1)]
    rw [digits_ff (by omega)]
    simp only [obs]
    by_cases h1 : w ≠ [] ∧ w.all isd = true
    · rw [if_pos (by simpa using h1)]
      cases o with
      | none =>
        rw [if_neg (by simp)]
        refine (good [] (by simp) h1.1 h1.2 rfl).trans ?_
        rw [if_pos ⟨h1.2, by simp, rfl⟩]; rfl
      | some p =>
        have hlp : p.length ≤ r.length := by rw [← hb, List.length_append, List.length_cons]; omega
        rw [if_pos (by simp)]
        simp only [Option.getD_some]
        rw [digits_ff (by omega)]
        simp only [obs]
        by_cases h2 : p ≠ [] ∧ p.all isd = true
        · rw [if_pos (by simpa using h2)]
          refine (good p (by omega) h1.1 h1.2 h2.2).trans ?_
          rw [if_pos ⟨h1.2, by simpa using h2.1, h2.2⟩]
        · rw [if_neg (by simpa using h2)]
          refine bad.trans ?_
          rw [if_neg (fun q => h2 ⟨by simpa using q.2.1, q.2.2⟩)]
    · rw [if_neg (by simpa using h1), bad]
      by_cases h2 : w = []
      · by_cases h3 : w.all isd = true ∧ o ≠ some [] ∧ (o.getD []).all isd = true
        · rw [if_pos h3]; unfold parse2; rw [if_pos (Or.inl h2)]
        · rw [if_neg h3]
      · rw [if_neg (fun q => h1 ⟨h2, q.1⟩)]
  match l with
  | [] => exact main false [] (by simp)
  | c :: t =>
    by_cases h : c = 45
    · subst h; exact main true t (by simp only [List.length_cons] at hl; omega)
    · have e1 : (match c :: t with | 45 :: t => (by' t, true) | _ => (by' (c :: t), false)) = (by' (c :: t), false) := by
        split
        · rename_i e; exact absurd (List.cons.inj e).1 h
        · rfl
      rw [e1, parseF_other h]; exact main false (c :: t) hl
theorem rparse_l2 (m : Bool) (q : List UInt8) (Z : List Int) (R : Option (Int × Int × Int)) (K0 : Nat) : ∀ (t pre : List UInt8) (k : Nat), (pre ++ t).all isd = true → (pre ++ t).length ≤ 18 → Z.length + (pre ++ t).length = 60 → t.length + K0 < k →
    (∀ j, K0 ≤ j → (soffitref01_dec.f j (((pre ++ t).map dg).reverse ++ Z) (q.length : Int) m) = R) →
    soffitref01_Parse.l2 k m (by' q) (by' (pre ++ t)) (List.replicate t.length 0 ++ ((pre.map dg).reverse ++ Z)) (pre.length : Int) = R := by
  intro t
  induction t with
  | nil =>
    intro pre k h hl hz hk hR
    obtain ⟨k, rfl⟩ := succ_of (by omega : 0 < k)
    have e := hR k (by omega)
    rw [List.append_nil] at e ⊢
    rw [soffitref01_Parse.l2, by_size, if_neg (by omega)]
    rw [show (List.replicate ([] : List UInt8).length (0 : Int) ++ ((pre.map dg).reverse ++ Z)) = (pre.map dg).reverse ++ Z from rfl, by_size, e]
    cases R with
    | none => rfl
    | some r => rfl
  | cons c t ih =>
    intro pre k h hl hz hk hR
    rw [List.length_append, List.length_cons] at hl hz
    rw [List.length_cons] at hk
    obtain ⟨k, rfl⟩ := succ_of (by omega : 0 < k)
    have hc : isd c = true := by rw [List.all_append, List.all_cons] at h; simp at h; exact h.2.1
    have hcd := isd_iff.1 hc
    have hsz : ((by' (pre ++ c :: t)).size : Int) = (pre.length : Int) + t.length + 1 := by rw [by_size, List.length_append, List.length_cons]; omega
    have hlen : ((List.replicate (c :: t).length (0 : Int) ++ ((pre.map dg).reverse ++ Z)).length : Int) = 60 := by
      simp only [List.length_append, List.length_replicate, List.length_reverse, List.length_map, List.length_cons]; omega
    have hix : wrap64 (wrap64 (((by' (pre ++ c :: t)).size : Int) - 1) - (pre.length : Int)) = (t.length : Int) := by
      rw [hsz, w64 (x := (pre.length : Int) + t.length + 1 - 1) (by omega) (by omega), w64 (by omega) (by omega)]; omega
    rw [soffitref01_Parse.l2, if_pos (by rw [hsz]; omega), if_pos (by omega), hix, if_pos (by omega), hlen, if_pos (by omega), Int.toNat_natCast, bt_by]
    rw [w64 (x := (pre.length : Int) + 1) (by omega) (by omega)]
    have hget : (pre ++ c :: t)[pre.length]?.getD 0 = c := by simp
    rw [hget, show ((c.toNat : Int) - 48) % 256 = dg c by unfold dg; omega]
    have hset : (List.replicate (c :: t).length (0 : Int) ++ ((pre.map dg).reverse ++ Z)).set t.length (dg c) = List.replicate t.length 0 ++ (((pre ++ [c]).map dg).reverse ++ Z) := by
      rw [List.length_cons, List.replicate_succ', List.append_assoc, List.set_append_right _ _ (by simp)]
      simp
    rw [hset]
    have := ih (pre ++ [c]) k (by simpa using h) (by simp only [List.length_append, List.length_cons, List.length_nil]; omega) (by simp only [List.length_append, List.length_cons, List.length_nil]; omega) (by omega)
      (by intro j hj; have := hR j hj; simpa using this)
    simpa using this
theorem rparse_j7 {k : Nat} (hk : 400 ≤ k) {m : Bool} {w q : List UInt8} (hw : w.all isd = true) (hq : q.all isd = true) :
    soffitref01_Parse.j7 k m (by' w) (by' q) = some (if 6 < q.length ∨ 12 < w.length then (0, 0, 3) else decS (value (w ++ q)) q.length m) := by
  obtain ⟨k, rfl⟩ := succ_of (by omega : 0 < k)
  obtain ⟨k, rfl⟩ := succ_of (by omega : 0 < k)
  rw [soffitref01_Parse.j7, by_size, by_size]
  by_cases h : 6 < q.length ∨ 12 < w.length
  · rw [if_pos h]
    by_cases g : (q.length : Int) > 6
    · rw [if_pos g, soffitref01_Parse.j8, if_pos rfl]
    · rw [if_neg g, soffitref01_Parse.j8, if_pos (by simp; omega)]
  · rw [if_neg h, if_neg (by omega), soffitref01_Parse.j8, if_neg (by simp; omega), if_pos (by rw [by_size, by_size]; omega), if_pos (by decide), by_app]
    have hall : (w ++ q).all isd = true := by rw [List.all_append, hw, hq]; rfl
    have hl : (w ++ q).length ≤ 18 := by rw [List.length_append]; omega
    have hv := value_bound hall
    have := rparse_l2 m q (List.replicate (60 - (w ++ q).length) 0) (some (decS (value (w ++ q)) q.length m)) 300 (w ++ q) [] k (by simpa using hall) (by simpa using hl) (by simp only [List.nil_append, List.length_replicate]; omega) (by omega) (by
      intro j hj
      have hval : val ((([] ++ (w ++ q)).map dg).reverse ++ List.replicate (60 - (w ++ q).length) 0) = value (w ++ q) := by
        rw [val_append, val_replicate, Int.mul_zero, Int.add_zero]; rfl
      rw [dec_row (by omega) (Dig.append (dig_rev (by simpa using hall)) (Dig.replicate _)) (by simp only [List.length_append, List.length_reverse, List.length_map, List.length_replicate, List.nil_append]; rw [List.length_append] at hl; omega) (by omega)
        (by simp only [List.length_append, List.length_reverse, List.length_map, List.length_replicate, List.nil_append]; rw [List.length_append] at hl; omega) (by
          rw [hval]
          have e : ((([] ++ (w ++ q)).map dg).reverse ++ List.replicate (60 - (w ++ q).length) (0 : Int)).length - 1 = 59 := by
            simp only [List.length_append, List.length_reverse, List.length_map, List.length_replicate, List.nil_append]; rw [List.length_append] at hl; omega
          rw [e]
          have : (10 : Nat) ^ (w ++ q).length ≤ 10 ^ 18 := Nat.pow_le_pow_right (by decide) hl
          have h2 : (10 : Int) ^ (w ++ q).length ≤ 10 ^ 18 := by exact_mod_cast this
          omega)]
      rw [hval, if_neg (by omega), show (mn (q.length : Int) 6).toNat = q.length by unfold mn; split <;> omega])
    have e : List.replicate (w ++ q).length (0 : Int) ++ ((([] : List UInt8).map dg).reverse ++ List.replicate (60 - (w ++ q).length) 0) = List.replicate 60 0 := by
      simp only [List.map_nil, List.reverse_nil, List.nil_append, List.replicate_append_replicate]
      congr 1; omega
    rw [e] at this
    exact this
theorem trimR_snoc (p : List UInt8) (c : UInt8) : Lib.trimRightS (p ++ [c]) [48] = if c = 48 then Lib.trimRightS p [48] else p ++ [c] := by
  unfold Lib.trimRightS
  rw [List.reverse_append, List.reverse_singleton, List.singleton_append, List.dropWhile_cons]
  by_cases h : c = 48
  · rw [if_pos (by simp [h]), if_pos h]
  · rw [if_neg (by simp [h]), if_neg h]; simp
theorem rparse_l1 {m : Bool} {w : List UInt8} (hw : w.all isd = true) (n : Nat) : ∀ (p : List UInt8) (k : Nat), p.length = n → p.length < 4611686018427387904 → p.all isd = true → n + 401 ≤ k →
    soffitref01_Parse.l1 k m (by' w) (by' p) = some (if 6 < (Lib.trimRightS p [48]).length ∨ 12 < w.length then (0, 0, 3) else decS (value (w ++ Lib.trimRightS p [48])) (Lib.trimRightS p [48]).length m) := by
  induction n with
  | zero =>
    intro p k hp hb hd hk
    obtain rfl := List.length_eq_zero_iff.1 hp
    obtain ⟨k, rfl⟩ := succ_of (by omega : 0 < k)
    rw [soffitref01_Parse.l1, if_neg (by rw [by_size]; simp), rparse_j7 (by omega) hw hd]; rfl
  | succ n ih =>
    intro p k hp hb hd hk
    obtain ⟨k, rfl⟩ := succ_of (by omega : 0 < k)
    obtain ⟨p, c, rfl⟩ : ∃ (p' : List UInt8) (c : UInt8), p = p' ++ [c] := ⟨p.dropLast, p.getLast (fun e => by rw [e] at hp; simp at hp), (List.dropLast_concat_getLast _).symm⟩
    have hl : p.length = n := by simpa using hp
    have hs : ((by' (p ++ [c])).size : Int) = (n : Int) + 1 := by rw [by_size]; omega
    rw [hp] at hb
    have hix : wrap64 (((by' (p ++ [c])).size : Int) - 1) = (n : Int) := by rw [hs, w64 (by omega) (by omega)]; omega
    rw [soffitref01_Parse.l1, if_pos (by omega)]
    simp only [hix]
    rw [if_pos (by omega), if_pos (by omega), bt_by, show (p ++ [c])[n]?.getD 0 = c by rw [← hl]; simp, trimR_snoc]
    by_cases h : c = 48
    · rw [if_pos (by rw [h]; rfl), if_pos (by omega), if_pos h, Int.toNat_natCast, by_ext, show ((p ++ [c]).take n).drop 0 = p by rw [← hl]; simp]
      exact ih p k hl (by omega) (by rw [List.all_append] at hd; simp at hd; simpa using hd.1) (by omega)
    · rw [if_neg (fun e => h (UInt8.toNat_inj.1 (by simpa using (by omega : c.toNat = 48)))), if_neg h]
      exact rparse_j7 (by omega) hw hd
theorem rparse_j4 {k : Nat} {m : Bool} {w p : List UInt8} (hw : w.all isd = true) (hp : p.all isd = true) (hb : w.length < 4611686018427387904 ∧ p.length < 4611686018427387904) (hk : p.length + 410 ≤ k) :
    soffitref01_Parse.j4 k m (by' w) (by' p) = some (parse2 m w p) := by
  obtain ⟨k, rfl⟩ := succ_of (by omega : 0 < k)
  obtain ⟨k, rfl⟩ := succ_of (by omega : 0 < k)
  rw [soffitref01_Parse.j4, by_toList, by_size]
  unfold parse2
  by_cases h0 : w = []
  · rw [if_pos h0, soffitref01_Parse.j5, if_pos rfl, if_pos (Or.inl h0)]
  · rw [if_neg h0]
    obtain ⟨c, t, rfl⟩ := List.exists_cons_of_ne_nil h0
    have hh : (bt (by' (c :: t)) 0 == 48) = decide (c = 48) := by
      rw [show (0 : Int) = ((0 : Nat) : Int) from rfl, bt_by]
      simp only [List.getElem?_cons_zero, Option.getD_some]
      rw [Bool.eq_iff_iff, beq_iff_eq, decide_eq_true_iff]
      constructor
      · intro e; exact UInt8.toNat_inj.1 (by simpa using (by omega : c.toNat = 48))
      · intro e; rw [e]; rfl
    by_cases h1 : 1 < (c :: t).length ∧ (c :: t).head? = some 48
    · rw [if_pos (Or.inr h1), if_pos (by omega), if_pos (by omega), hh, soffitref01_Parse.j5, if_pos (by simpa using h1.2)]
    · have hn : ¬ (c :: t = [] ∨ 1 < (c :: t).length ∧ (c :: t).head? = some 48) := fun g => g.elim h0 h1
      rw [if_neg hn]
      by_cases h2 : ((c :: t).length : Int) > 1
      · rw [if_pos h2, if_pos (by omega), hh, soffitref01_Parse.j5, if_neg (by
          intro g; exact h1 ⟨by omega, by simpa using g⟩)]
        exact rparse_l1 hw _ p k rfl hb.2 hp (by omega)
      · rw [if_neg h2, soffitref01_Parse.j5, if_neg (by simp)]
        exact rparse_l1 hw _ p k rfl hb.2 hp (by omega)
theorem rparse_b {m : Bool} {w : List UInt8} (hw : w.all isd = true) : ∀ (t pre : List UInt8) (k : Nat), pre.all isd = true → w.length + pre.length + t.length < 4611686018427387900 → 2 * t.length + (pre.length + t.length) + 420 ≤ k →
    soffitref01_Parse.l0 k (by' (w ++ 46 :: (pre ++ t))) m (w.length : Int) ((w.length + 1 + pre.length : Nat) : Int) = some (if pre ++ t ≠ [] ∧ t.all isd = true then parse2 m w (pre ++ t) else (0, 0, 5)) := by
  intro t
  induction t with
  | nil =>
    intro pre k hp hb hk
    obtain ⟨k, rfl⟩ := succ_of (by omega : 0 < k)
    have hs : ((by' (w ++ 46 :: (pre ++ []))).size : Int) = ((w.length + 1 + pre.length : Nat) : Int) := by rw [by_size]; simp only [List.length_append, List.length_cons, List.length_nil]; omega
    rw [soffitref01_Parse.l0, hs, if_neg (by omega), if_pos (by omega), if_pos (by omega), if_pos (by omega)]
    have e1 : wrap64 ((w.length : Int) + 1) = ((w.length + 1 : Nat) : Int) := by rw [w64 (by omega) (by omega)]; omega
    simp only [e1, Int.toNat_natCast]
    rw [if_pos (by omega), if_pos (by omega)]
    have e2 : (by' (w ++ 46 :: (pre ++ []))).extract (w.length + 1) (by' (w ++ 46 :: (pre ++ []))).size = by' pre := by
      rw [by_ext, by_size, List.take_length, List.append_nil, List.drop_append, List.drop_of_length_le (by omega), show w.length + 1 - w.length = 1 by omega]; rfl
    have e3 : (by' (w ++ 46 :: (pre ++ []))).extract 0 w.length = by' w := by rw [by_ext]; simp
    rw [e2, e3, by_toList, List.append_nil]
    by_cases h : pre = []
    · rw [if_pos h, if_neg (fun g => g.1 h)]
    · rw [if_neg h, if_pos ⟨h, rfl⟩]
      exact rparse_j4 hw hp ⟨by omega, by omega⟩ (by simp only [List.length_nil] at hk; omega)
  | cons c t ih =>
    intro pre k hp hb hk
    rw [List.length_cons] at hb hk
    obtain ⟨k, rfl⟩ := succ_of (by omega : 0 < k)
    obtain ⟨k, rfl⟩ := succ_of (by omega : 0 < k)
    have hs : ((by' (w ++ 46 :: (pre ++ c :: t))).size : Int) = ((w.length + 1 + pre.length + t.length + 1 : Nat) : Int) := by rw [by_size]; simp only [List.length_append, List.length_cons]; omega
    have hg : (w ++ 46 :: (pre ++ c :: t))[w.length + 1 + pre.length]?.getD 0 = c := by
      rw [List.getElem?_append_right (by omega), show w.length + 1 + pre.length - w.length = pre.length + 1 by omega, List.getElem?_cons_succ, List.getElem?_append_right (by omega)]; simp
    rw [soffitref01_Parse.l0, hs, if_pos (by omega), if_pos (by omega), bt_by, hg]
    have hn : decide ((w.length : Int) < 0) = false := decide_eq_false (by omega)
    have hj : (if ((c.toNat : Int)) = 46 then soffitref01_Parse.j3 (k + 1) (by' (w ++ 46 :: (pre ++ c :: t))) m (w.length : Int) ((w.length + 1 + pre.length : Nat) : Int) (decide ((w.length : Int) < 0)) else soffitref01_Parse.j3 (k + 1) (by' (w ++ 46 :: (pre ++ c :: t))) m (w.length : Int) ((w.length + 1 + pre.length : Nat) : Int) false) = soffitref01_Parse.j3 (k + 1) (by' (w ++ 46 :: (pre ++ c :: t))) m (w.length : Int) ((w.length + 1 + pre.length : Nat) : Int) false := by rw [hn]; split <;> rfl
    rw [hj, soffitref01_Parse.j3, if_neg (by simp), if_pos (by omega), hs, if_pos (by omega), bt_by, hg]
    rw [List.all_cons]
    by_cases h1 : (c.toNat : Int) < 48
    · rw [if_pos h1, if_neg (fun g => by have := isd_iff.1 (Bool.and_eq_true_iff.1 g.2).1; omega)]
    · rw [if_neg h1]
      by_cases h2 : (c.toNat : Int) > 57
      · rw [if_pos h2, if_neg (fun g => by have := isd_iff.1 (Bool.and_eq_true_iff.1 g.2).1; omega)]
      · have hc : isd c = true := isd_iff.2 (by omega)
        rw [if_neg h2, w64 (by omega) (by omega), hc]
        have := ih (pre ++ [c]) k (by rw [List.all_append, hp]; simp [hc]) (by simp only [List.length_append, List.length_cons, List.length_nil]; omega) (by simp only [List.length_append, List.length_cons, List.length_nil]; omega)
        have e : (((w.length + 1 + (pre ++ [c]).length : Nat)) : Int) = ((w.length + 1 + pre.length : Nat) : Int) + 1 := by simp only [List.length_append, List.length_cons, List.length_nil]; omega
        rw [e] at this
        simpa using this
theorem rparse_a {m : Bool} : ∀ (t pre : List UInt8) (k : Nat), pre.all isd = true → pre.length + t.length < 4611686018427387900 → 3 * t.length + 430 ≤ k →
    soffitref01_Parse.l0 k (by' (pre ++ t)) m (-1) (pre.length : Int) = some (sel m (pre ++ (splt t).1) (splt t).2) := by
  intro t
  induction t with
  | nil =>
    intro pre k hp hb hk
    obtain ⟨k, rfl⟩ := succ_of (by omega : 0 < k)
    rw [soffitref01_Parse.l0, List.append_nil, by_size, if_neg (by omega), if_neg (by omega), show (⟨#[]⟩ : ByteArray) = by' [] from rfl]
    rw [rparse_j4 hp rfl ⟨by omega, by simp⟩ (by simp only [List.length_nil]; omega)]
    simp only [splt, List.append_nil]
    unfold sel
    rw [if_pos ⟨hp, by simp, rfl⟩]; rfl
  | cons c t ih =>
    intro pre k hp hb hk
    rw [List.length_cons] at hb hk
    obtain ⟨k, rfl⟩ := succ_of (by omega : 0 < k)
    obtain ⟨k, rfl⟩ := succ_of (by omega : 0 < k)
    have hs : ((by' (pre ++ c :: t)).size : Int) = ((pre.length + t.length + 1 : Nat) : Int) := by rw [by_size]; simp only [List.length_append, List.length_cons]; omega
    have hg : (pre ++ c :: t)[pre.length]?.getD 0 = c := by simp
    rw [soffitref01_Parse.l0, hs, if_pos (by omega), if_pos (by omega), bt_by, hg]
    by_cases h46 : c = 46
    · subst h46
      have hsp : splt (46 :: t) = ([], some t) := by rw [splt, if_pos rfl]
      rw [if_pos (by decide), soffitref01_Parse.j3, if_pos (by decide), w64 (by omega) (by omega), hsp]
      have := rparse_b (m := m) hp t [] k rfl (by simp only [List.length_nil]; omega) (by simp only [List.length_nil]; omega)
      rw [show ((pre.length + 1 + ([] : List UInt8).length : Nat) : Int) = (pre.length : Int) + 1 by simp] at this
      rw [List.nil_append] at this
      rw [this]
      simp only [List.append_nil]
      unfold sel
      simp only [Option.getD_some]
      by_cases g : t ≠ [] ∧ t.all isd = true
      · rw [if_pos g, if_pos ⟨hp, by simpa using g.1, g.2⟩]
      · rw [if_neg g, if_neg (fun q => g ⟨by simpa using q.2.1, q.2.2⟩)]
    · have hsp : splt (c :: t) = (c :: (splt t).1, (splt t).2) := by rw [splt, if_neg h46]
      have hne : ¬ (c.toNat : Int) = 46 := fun e => h46 (UInt8.toNat_inj.1 (by simpa using (by omega : c.toNat = 46)))
      rw [if_neg hne, soffitref01_Parse.j3, if_neg (by simp), if_pos (by omega), hs, if_pos (by omega), bt_by, hg, hsp]
      by_cases h1 : (c.toNat : Int) < 48
      · rw [if_pos h1, sel_bad (by intro g; rw [List.all_append, List.all_cons] at g; simp only [Bool.and_eq_true] at g; have := isd_iff.1 g.2.1; omega)]
      · rw [if_neg h1]
        by_cases h2 : (c.toNat : Int) > 57
        · rw [if_pos h2, sel_bad (by intro g; rw [List.all_append, List.all_cons] at g; simp only [Bool.and_eq_true] at g; have := isd_iff.1 g.2.1; omega)]
        · have hc : isd c = true := isd_iff.2 (by omega)
          rw [if_neg h2, w64 (by omega) (by omega)]
          have := ih (pre ++ [c]) k (by rw [List.all_append, hp]; simp [hc]) (by simp only [List.length_append, List.length_cons, List.length_nil]; omega) (by omega)
          have e : (((pre ++ [c]).length : Nat) : Int) = (pre.length : Int) + 1 := by simp
          rw [e] at this
          simpa using this
theorem refparse_ff {k : Nat} (l : List UInt8) (hl : l.length < 4611686018427387900) (hk : 3 * l.length + 440 ≤ k) : soffitref01_Parse.f k (by' l) = some (parseF l) := by
  have main : ∀ (m : Bool) (r : List UInt8) (k : Nat), r.length < 4611686018427387900 → 3 * r.length + 431 ≤ k → soffitref01_Parse.j1 k (by' r) m = some (parseS m r) := by
    intro m r k hr hk
    obtain ⟨k, rfl⟩ := succ_of (by omega : 0 < k)
    rw [soffitref01_Parse.j1]
    exact rparse_a r [] k rfl (by simpa using hr) (by omega)
  unfold soffitref01_Parse.f
  obtain ⟨k, rfl⟩ := succ_of (by omega : 0 < k)
  match l with
  | [] =>
    rw [if_neg (by rw [by_size]; simp), soffitref01_Parse.j0, if_neg (by simp)]
    exact main false [] k (by simp) (by simp only [List.length_nil] at hk ⊢; omega)
  | c :: t =>
    have hs : ((by' (c :: t)).size : Int) = (t.length : Int) + 1 := by rw [by_size, List.length_cons]; omega
    rw [List.length_cons] at hl hk
    rw [hs, if_pos (by omega), if_pos (by omega), show (0 : Int) = ((0 : Nat) : Int) from rfl, bt_by, soffitref01_Parse.j0]
    simp only [List.getElem?_cons_zero, Option.getD_some]
    by_cases h : c = 45
    · subst h
      rw [if_pos (by decide), if_pos (by omega)]
      have e : (by' (45 :: t)).extract 1 (by' (45 :: t)).size = by' t := by rw [by_ext, by_size, List.take_length]; rfl
      rw [e]
      exact main true t k (by omega) (by omega)
    · have hne : ((c.toNat : Int) == 45) = false := by
        rw [beq_eq_false_iff_ne]; intro e; exact h (UInt8.toNat_inj.1 (by simpa using (by omega : c.toNat = 45)))
      rw [hne, if_neg (by simp), parseF_other h]
      exact main false (c :: t) k (by rw [List.length_cons]; omega) (by rw [List.length_cons]; omega)
end Go.Proofs.YtgkemhgihbfmmaaDoor.PA
end
section
namespace Go.Proofs.YtgkemhgihbfmmaaDoor.PA
open Go.RowKit Go.Proofs.YtgkemhgihbfmmaaDoorW.PrintWords Go.Proofs.YtgkemhgihbfmmaaDoorW.PrintLast Go.Proofs.YtgkemhgihbfmmaaDoorW.PrintMore
open Go.Proofs.YtgkemhgihbfmmaaDoor.M
theorem awake_texts : soffitlaw01_awake.f 500 = some true := by decide +kernel
theorem awake_more (d : Nat) : soffitlaw01_awake.f (500 + d) = some true := by
  induction d with
  | zero => exact awake_texts
  | succ d ih => exact soffitlaw01_awake.mono (500 + d) true ih
theorem deciTexts_true (n s : Int) (a : ByteArray) (_ : -9223372036854775808 ≤ n ∧ n ≤ 9223372036854775807) (_ : -9223372036854775808 ≤ s ∧ s ≤ 9223372036854775807) (ha : a.size ≤ 140737488351232) : soffitlaw01_DeciTexts.f (3 * a.size + 1000) n s a = some true := by
  rw [by_list a] at ha ⊢
  generalize a.data.toList = l at ha ⊢
  rw [by_size] at ha ⊢
  unfold soffitlaw01_DeciTexts.f
  rw [text_ff (by omega), reftext_ff (by omega), parse_ff (by omega) l (by omega), refparse_ff l (by omega) (by omega), show 3 * l.length + 1000 = 500 + (3 * l.length + 500) by omega, awake_more]
  simp
end Go.Proofs.YtgkemhgihbfmmaaDoor.PA
end
