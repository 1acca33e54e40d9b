/- Plain functions and facts: no program in sight. -/
import Derived.Test.YtihfiegopnjeiaaDoorBase
namespace Go.Proofs.YtihfiegopnjeiaaDoor
set_option linter.unusedSimpArgs false
set_option linter.unusedVariables false

/-- How many decimal digits n has (0: one). -/
def cnt (n : Nat) : Nat := if n < 10 then 1 else cnt (n / 10) + 1
theorem cnt_lt {n : Nat} (h : n < 10) : cnt n = 1 := by rw [cnt]; simp [h]
theorem cnt_ge {n : Nat} (h : 10 ≤ n) : cnt n = cnt (n / 10) + 1 := by rw [cnt]; simp [Nat.not_lt.2 h]
theorem cnt_le : ∀ (k n : Nat), n < 10 ^ (k + 1) → 1 ≤ cnt n ∧ cnt n ≤ k + 1
  | 0, n, h => by rw [cnt_lt (by simpa using h)]; omega
  | k + 1, n, h => by
    by_cases hn : n < 10
    · rw [cnt_lt hn]; omega
    · rw [cnt_ge (by omega)]
      have := cnt_le k (n / 10) (by rw [Nat.pow_succ] at h; omega)
      omega
theorem cnt_bd (n : Nat) (_h : n < 18446744073709551616) : 1 ≤ cnt n ∧ cnt n ≤ 20 := cnt_le 19 n (by omega)

/-- The decimal digits of n, the first one first; of 0: none. -/
def digs (n : Nat) : List Nat := if _h : n = 0 then [] else digs (n / 10) ++ [n % 10]
theorem digs_zero : digs 0 = [] := by rw [digs]; simp
theorem digs_pos {n : Nat} (h : n ≠ 0) : digs n = digs (n / 10) ++ [n % 10] := by rw [digs]; simp [h]
theorem digs_length : ∀ (k n : Nat), n < 10 ^ k → n ≠ 0 → (digs n).length = cnt n
  | 0, n, h, h0 => by simp at h; omega
  | k + 1, n, h, h0 => by
    rw [digs_pos h0]
    by_cases hn : n < 10
    · rw [cnt_lt hn, show n / 10 = 0 by omega, digs_zero]; rfl
    · rw [cnt_ge (by omega), List.length_append, digs_length k (n / 10) (by rw [Nat.pow_succ] at h; omega) (by omega)]
      rfl
theorem tdivmod (q : Int) : -10 < q.tmod 10 ∧ q.tmod 10 < 10 ∧ 10 * q.tdiv 10 + q.tmod 10 = q ∧ (q.tdiv 10).natAbs = q.natAbs / 10 ∧ (q.tmod 10).natAbs = q.natAbs % 10 ∧ (0 ≤ q → 0 ≤ q.tmod 10) :=
  ⟨Int.lt_tmod_of_pos q (by omega), Int.tmod_lt_of_pos q (by omega), Int.mul_tdiv_add_tmod q 10, by rw [Int.natAbs_tdiv]; rfl, by rw [Int.natAbs_tmod]; rfl, fun h => Int.tmod_nonneg 10 h⟩
theorem digs_len_le (n : Nat) (h : n < 18446744073709551616) : (digs n).length ≤ 20 := by
  by_cases h0 : n = 0
  · subst h0; rw [digs_zero]; simp
  · rw [digs_length 20 n (by omega) h0]; exact (cnt_bd n h).2
def digsI (n : Int) : List Int := (digs n.natAbs).map Int.ofNat

def sizeI (n : Int) : Int := if n < 0 then -n else n
theorem sizeI_nat (n : Int) : sizeI n = n.natAbs := by unfold sizeI; split <;> omega
theorem sizeI_bd {n : Int} (h : I64 n) : 0 ≤ sizeI n ∧ sizeI n ≤ 9223372036854775808 := by unfold sizeI; obtain ⟨h1, h2⟩ := h; split <;> omega
def countI (n : Int) : Int := cnt n.toNat

def badF (f : Int) : Int := if f < 1 ∨ 9 < f then 9 else f
def textV (t : ByteArray) : Val := if 255 < t.size then ⟨4, 0, 0, ⟨#[]⟩, false, 2⟩ else ⟨2, 0, 0, t, false, 0⟩

def numRightB (m e : Int) : Bool :=
  if m = 0 then e == 0 else
  if 1000000000000000 ≤ sizeI m ∨ sizeI m % 10 = 0 ∨ e < -40 ∨ 40 ≤ e then false else decide (countI (sizeI m) + e ≤ 40)

/-- value.Right. -/
def valRight (x : Val) : Bool :=
  if x.kind = 0 then eqV x Val.zero
  else if x.kind = 1 then numRightB x.mant x.exp && eqV x ⟨1, x.mant, x.exp, ⟨#[]⟩, false, 0⟩
  else if x.kind = 2 then eqV x (textV x.text)
  else if x.kind = 3 then eqV x ⟨3, 0, 0, ⟨#[]⟩, x.truth, 0⟩
  else if x.kind = 4 then eqV x ⟨4, 0, 0, ⟨#[]⟩, false, badF x.fault⟩
  else false

/-- counterpaneref01.Right. -/
def refNumRight (m e : Int) : Bool :=
  if m = 0 then e == 0 else
  if 1000000000000000 ≤ m ∨ m ≤ -1000000000000000 ∨ m.tmod 10 = 0 ∨ e < -40 ∨ 40 < e then false else decide (countI (sizeI m) + e ≤ 40)

/-- counterpaneref02.Right. -/
def refRight (x : Val) : Bool :=
  if (x.kind ≠ 1 ∧ ¬ (x.mant = 0 ∧ x.exp = 0)) ∨ (x.kind ≠ 2 ∧ x.text ≠ ⟨#[]⟩) ∨ (x.kind ≠ 3 ∧ x.truth = true) ∨ (x.kind ≠ 4 ∧ x.fault ≠ 0) then false
  else if x.kind = 1 then refNumRight x.mant x.exp
  else if x.kind = 2 then decide (x.text.size ≤ 255)
  else x.kind == 0 || x.kind == 3 || (x.kind == 4 && decide (1 ≤ x.fault) && decide (x.fault ≤ 9))

theorem numRight_eq (m e : Int) (_ : I64 m) : numRightB m e = refNumRight m e := by
  unfold numRightB refNumRight
  by_cases h0 : m = 0
  · simp [h0]
  · simp only [h0, if_false]
    have ht : m.tmod 10 = 0 ↔ sizeI m % 10 = 0 := by
      rw [← Int.dvd_iff_tmod_eq_zero]
      unfold sizeI; split <;> omega
    by_cases h1 : 1000000000000000 ≤ sizeI m
    · rw [if_pos (Or.inl h1), if_pos (by unfold sizeI at h1; split at h1 <;> omega)]
    · have h1' : ¬ 1000000000000000 ≤ m ∧ ¬ m ≤ -1000000000000000 := by unfold sizeI at h1; split at h1 <;> omega
      by_cases h2 : sizeI m % 10 = 0
      · rw [if_pos (Or.inr (Or.inl h2)), if_pos (by right; right; left; exact ht.2 h2)]
      · by_cases h3 : e < -40
        · rw [if_pos (by omega), if_pos (by omega)]
        · by_cases h4 : 40 < e
          · rw [if_pos (by omega), if_pos (by omega)]
          · rw [if_neg (show ¬ (1000000000000000 ≤ m ∨ m ≤ -1000000000000000 ∨ m.tmod 10 = 0 ∨ e < -40 ∨ 40 < e) by omega)]
            by_cases h5 : 40 ≤ e
            · rw [if_pos (by omega)]
              have : 1 ≤ countI (sizeI m) := by unfold countI; have := (cnt_le 20 (sizeI m).toNat (by unfold sizeI at h1 ⊢; split <;> split at h1 <;> omega)).1; omega
              symm
              simp only [decide_eq_false_iff_not]
              omega
            · rw [if_neg (by omega)]

theorem right_eq (x : Val) (hx : x.ok) : valRight x = refRight x := by
  obtain ⟨k, m, e, t, b, f⟩ := x
  unfold valRight refRight
  simp only [eqV, Val.zero]
  by_cases h0 : k = 0
  · subst h0
    by_cases h1 : m = 0 <;> by_cases h2 : e = 0 <;> by_cases h3 : t = ⟨#[]⟩ <;> cases b <;> by_cases h4 : f = 0 <;> simp [h1, h2, h3, h4]
  · by_cases h1 : k = 1
    · subst h1
      have := numRight_eq m e hx.2.1
      by_cases h3 : t = ⟨#[]⟩ <;> cases b <;> by_cases h4 : f = 0 <;> simp [h3, h4, this]
    · by_cases h2 : k = 2
      · subst h2
        by_cases h1 : m = 0 <;> by_cases h2 : e = 0 <;> cases b <;> by_cases h4 : f = 0 <;> by_cases h5 : 255 < t.size <;> simp [textV, h1, h2, h4, h5] <;> omega
      · by_cases h3 : k = 3
        · subst h3
          by_cases h1 : m = 0 <;> by_cases h2 : e = 0 <;> by_cases h3 : t = ⟨#[]⟩ <;> cases b <;> by_cases h4 : f = 0 <;> simp [h1, h2, h3, h4]
        · by_cases h4 : k = 4
          · subst h4
            unfold badF
            by_cases h1 : m = 0 <;> by_cases h2 : e = 0 <;> by_cases h3 : t = ⟨#[]⟩ <;> cases b <;> by_cases h5 : f < 1 ∨ 9 < f <;> simp [h1, h2, h3, h5] <;> (first | omega | (rw [Bool.eq_iff_iff]; simp; omega))
          · simp [h0, h1, h2, h3, h4]
end Go.Proofs.YtihfiegopnjeiaaDoor
