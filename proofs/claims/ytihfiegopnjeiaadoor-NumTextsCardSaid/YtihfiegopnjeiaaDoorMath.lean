/- Decimal numbers: digits, rounding, order: plain functions and facts, no program in sight. -/
namespace Go.Proofs.YtihfiegopnjeiaaDoor.NM
set_option linter.unusedSimpArgs false
set_option linter.unusedVariables false

/-- 10 to the power n. -/
abbrev T (n : Nat) : Nat := 10 ^ n
theorem T_pos (n : Nat) : 0 < T n := Nat.pow_pos (by decide)
theorem T_succ (n : Nat) : T (n + 1) = 10 * T n := by simp only [T, Nat.pow_succ]; omega
theorem T_add (m n : Nat) : T (m + n) = T m * T n := Nat.pow_add 10 m n
theorem T_mono {m n : Nat} (h : m ≤ n) : T m ≤ T n := Nat.pow_le_pow_right (by decide) h
theorem T_lt {m n : Nat} (h : m < n) : T m < T n := Nat.pow_lt_pow_right (by decide) h
theorem T_split {m n : Nat} (h : m ≤ n) : T n = T m * T (n - m) := by rw [← T_add]; congr 1; omega

/-- How many digits n has (0 has none). -/
def nd (n : Nat) : Nat := if h : n = 0 then 0 else nd (n / 10) + 1
  termination_by n
  decreasing_by omega
theorem nd_zero : nd 0 = 0 := by unfold nd; simp
theorem nd_pos {n : Nat} (h : n ≠ 0) : nd n = nd (n / 10) + 1 := by rw [nd]; simp [h]
theorem lt_T_nd (n : Nat) : n < T (nd n) := by
  induction n using Nat.strongRecOn with
  | ind n ih =>
    by_cases h : n = 0
    · subst h; simp [nd_zero]
    · rw [nd_pos h, T_succ]; have := ih (n / 10) (by omega); omega
theorem T_le_of_nd {n : Nat} (h : n ≠ 0) : T (nd n - 1) ≤ n := by
  induction n using Nat.strongRecOn with
  | ind n ih =>
    rw [nd_pos h]
    by_cases h1 : n / 10 = 0
    · rw [h1, nd_zero]; simp; omega
    · have := ih (n / 10) (by omega) h1
      have h2 : nd (n / 10) = nd (n / 10) - 1 + 1 := by rw [nd_pos h1]; omega
      rw [Nat.add_sub_cancel, h2, T_succ]; omega
theorem nd_le_iff (n k : Nat) : nd n ≤ k ↔ n < T k := by
  constructor
  · intro h; exact Nat.lt_of_lt_of_le (lt_T_nd n) (T_mono h)
  · intro h
    by_cases h0 : n = 0
    · subst h0; rw [nd_zero]; omega
    · have h1 := T_le_of_nd h0
      rcases Nat.lt_or_ge k (nd n) with h2 | h2
      · have := T_mono (show k ≤ nd n - 1 by omega); omega
      · exact h2
theorem lt_nd_iff (n k : Nat) : k < nd n ↔ T k ≤ n := by
  have := nd_le_iff n k; omega
theorem nd_eq {n k : Nat} (h1 : T k ≤ n) (h2 : n < T (k + 1)) : nd n = k + 1 := by
  have a := (lt_nd_iff n k).2 h1
  have b := (nd_le_iff n (k + 1)).2 h2
  omega
theorem nd_mono {a b : Nat} (h : a ≤ b) : nd a ≤ nd b := (nd_le_iff a _).2 (Nat.lt_of_le_of_lt h (lt_T_nd b))
theorem nd_eq_zero {n : Nat} : nd n = 0 ↔ n = 0 := by
  constructor
  · intro h; have := lt_T_nd n; rw [h] at this; simpa using this
  · rintro rfl; exact nd_zero
theorem nd_mul_T {n : Nat} (k : Nat) (h : n ≠ 0) : nd (n * T k) = nd n + k := by
  have h1 : 0 < nd n := Nat.pos_of_ne_zero fun hh => h (nd_eq_zero.1 hh)
  have h2 : nd n + k = (nd n - 1 + k) + 1 := by omega
  rw [h2]
  apply nd_eq
  · rw [T_add]; exact Nat.mul_le_mul_right _ (T_le_of_nd h)
  · rw [show nd n - 1 + k + 1 = nd n + k by omega, T_add]; exact Nat.mul_lt_mul_of_pos_right (lt_T_nd n) (T_pos k)
theorem nd_T (k : Nat) : nd (T k) = k + 1 := nd_eq (Nat.le_refl _) (T_lt (Nat.lt_succ_self k))
theorem nd_div_T (n k : Nat) : nd (n / T k) = nd n - k := by
  by_cases h : nd n ≤ k
  · rw [Nat.div_eq_of_lt ((nd_le_iff n k).1 h), nd_zero]; omega
  · have hn : n ≠ 0 := fun h0 => h (by rw [h0, nd_zero]; omega)
    rw [show nd n - k = (nd n - k - 1) + 1 by omega]
    apply nd_eq
    · rw [Nat.le_div_iff_mul_le (T_pos k), ← T_add, show nd n - k - 1 + k = nd n - 1 by omega]; exact T_le_of_nd hn
    · rw [Nat.div_lt_iff_lt_mul (T_pos k), ← T_add, show nd n - k - 1 + 1 + k = nd n by omega]; exact lt_T_nd n

theorem ite_iff {α : Type} {p q : Prop} [Decidable p] [Decidable q] (a b : α) (h : p ↔ q) : (if p then a else b) = if q then a else b := by
  by_cases hp : p
  · rw [if_pos hp, if_pos (h.1 hp)]
  · rw [if_neg hp, if_neg (fun hq => hp (h.2 hq))]
/-- N without its last k digits, rounded to the nearest, of two to the even one; more: something more stands behind. -/
def cutN (N k : Nat) (more : Bool) : Nat :=
  if T k < 2 * (N % T k) ∨ 2 * (N % T k) = T k ∧ (more = true ∨ N / T k % 2 = 1) then N / T k + 1 else N / T k
theorem cutN_zero (N : Nat) (more : Bool) : cutN N 0 more = N := by simp [cutN, T, Nat.mod_one]
theorem cutN_lo (N k : Nat) (more : Bool) : N / T k ≤ cutN N k more := by unfold cutN; split <;> omega
theorem cutN_hi (N k : Nat) (more : Bool) : cutN N k more ≤ N / T k + 1 := by unfold cutN; split <;> omega
theorem cutN_small {N k : Nat} (more : Bool) (h : 2 * N < T k) : cutN N k more = 0 := by
  have h1 : N < T k := by omega
  unfold cutN
  rw [Nat.mod_eq_of_lt h1, Nat.div_eq_of_lt h1, if_neg (by omega)]
theorem cutN_far {N k : Nat} (more : Bool) (h : nd N < k) : cutN N k more = 0 := by
  apply cutN_small
  have h1 := lt_T_nd N
  have h2 : T (nd N + 1) ≤ T k := T_mono h
  rw [T_succ] at h2; omega
/-- Off by at most a half. -/
theorem cutN_near (N k : Nat) (more : Bool) : 2 * N ≤ 2 * (cutN N k more * T k) + T k ∧ 2 * (cutN N k more * T k) ≤ 2 * N + T k := by
  have h := Nat.div_add_mod N (T k)
  have hp := Nat.mod_lt N (T_pos k)
  unfold cutN
  generalize N % T k = r at *
  generalize N / T k = q at *
  rw [Nat.mul_comm] at h
  split
  · rw [Nat.add_mul, Nat.one_mul]; omega
  · omega
theorem cutN_mono {a b : Nat} (k : Nat) (h : a ≤ b) : cutN a k false ≤ cutN b k false := by
  have hq : a / T k ≤ b / T k := Nat.div_le_div_right h
  rcases Nat.lt_or_ge (a / T k) (b / T k) with h1 | h1
  · have := cutN_hi a k false; have := cutN_lo b k false; omega
  · have he : a / T k = b / T k := by omega
    have ha := Nat.div_add_mod a (T k)
    have hb := Nat.div_add_mod b (T k)
    rw [he] at ha
    unfold cutN
    rw [he]
    generalize a % T k = r at *
    generalize b % T k = s at *
    generalize b / T k = q at *
    generalize T k * q = z at *
    split
    · rw [if_pos]; simp; simp at *; omega
    · split <;> omega
theorem mod_pow_split (N j k : Nat) : N % T (k + j) = N / T j % T k * T j + N % T j := by
  have h := Nat.mod_mul (x := N) (a := T j) (b := T k)
  rw [show T (k + j) = T j * T k by rw [T_add, Nat.mul_comm], h, Nat.mul_comm]; omega
theorem div_pow_split (N j k : Nat) : N / T (k + j) = N / T j / T k := by
  rw [Nat.div_div_eq_div_mul, show T (k + j) = T j * T k by rw [T_add, Nat.mul_comm]]
/-- What is cut further behind counts only as 'something more'. -/
theorem cutN_sticky (N j k : Nat) (more : Bool) (hk : 0 < k) : cutN N (k + j) more = cutN (N / T j) k (decide (N % T j ≠ 0) || more) := by
  unfold cutN
  rw [mod_pow_split, div_pow_split]
  have hT : T (k + j) = T k * T j := T_add k j
  obtain ⟨k', rfl⟩ : ∃ k', k = k' + 1 := ⟨k - 1, by omega⟩
  have hr := Nat.mod_lt N (T_pos j)
  have hs := Nat.mod_lt (N / T j) (T_pos (k' + 1))
  have hk2 : T (k' + 1) = 2 * (5 * T k') := by rw [T_succ]; omega
  generalize N / T j / T (k' + 1) = q at *
  generalize N / T j % T (k' + 1) = s at *
  generalize N % T j = r at *
  rw [hT, hk2] at *
  generalize 5 * T k' = h at *
  generalize T j = t at *
  have key : 2 * h * t = 2 * (h * t) := by rw [Nat.mul_assoc]
  rw [key]
  have e1 : (2 * (h * t) < 2 * (s * t + r)) ↔ (h < s ∨ h = s ∧ 0 < r) := by
    constructor
    · intro hh
      rcases Nat.lt_trichotomy h s with a | a | a
      · exact Or.inl a
      · subst a; exact Or.inr ⟨rfl, by omega⟩
      · exfalso
        have := Nat.mul_le_mul_right t (show s + 1 ≤ h from a)
        rw [Nat.add_mul, Nat.one_mul] at this; omega
    · rintro (a | ⟨rfl, b⟩)
      · have := Nat.mul_le_mul_right t (show h + 1 ≤ s from a)
        rw [Nat.add_mul, Nat.one_mul] at this; omega
      · omega
  have e2 : (2 * (s * t + r) = 2 * (h * t)) ↔ (h = s ∧ r = 0) := by
    constructor
    · intro hh
      rcases Nat.lt_trichotomy h s with a | a | a
      · exfalso
        have := Nat.mul_le_mul_right t (show h + 1 ≤ s from a)
        rw [Nat.add_mul, Nat.one_mul] at this; omega
      · subst a; exact ⟨rfl, by omega⟩
      · exfalso
        have := Nat.mul_le_mul_right t (show s + 1 ≤ h from a)
        rw [Nat.add_mul, Nat.one_mul] at this; omega
    · rintro ⟨rfl, rfl⟩; omega
  have e3 : (decide (r ≠ 0) || more) = true ↔ (0 < r ∨ more = true) := by cases more <;> simp <;> omega
  apply ite_iff
  rw [e1, e2, e3]
  constructor
  · rintro ((a | ⟨a, b⟩) | ⟨⟨a, b⟩, c⟩)
    · left; omega
    · right; exact ⟨by omega, Or.inl (Or.inl b)⟩
    · right; refine ⟨by omega, ?_⟩; rcases c with c | c
      · exact Or.inl (Or.inr c)
      · exact Or.inr c
  · rintro (a | ⟨a, (b | b) | b⟩)
    · left; left; omega
    · left; right; exact ⟨by omega, b⟩
    · by_cases hr0 : r = 0
      · right; exact ⟨⟨by omega, hr0⟩, Or.inl b⟩
      · left; right; exact ⟨by omega, by omega⟩
    · by_cases hr0 : r = 0
      · right; exact ⟨⟨by omega, hr0⟩, Or.inr b⟩
      · left; right; exact ⟨by omega, by omega⟩
/-- Noughts behind don't count. -/
theorem cutN_scale (N j k : Nat) : cutN (N * T j) (k + j) false = cutN N k false := by
  have h0 : N * T j / T j = N := Nat.mul_div_cancel _ (T_pos j)
  have h1 : N * T j % T j = 0 := Nat.mul_mod_left _ _
  rcases Nat.eq_zero_or_pos k with rfl | hk
  · rw [Nat.zero_add, cutN_zero]
    unfold cutN
    rw [h0, h1, if_neg]
    have := T_pos j
    omega
  · rw [cutN_sticky _ _ _ _ hk, h0, h1]; simp
theorem cutN_mul (N j k : Nat) (h : k ≤ j) : cutN (N * T j) k false = N * T (j - k) := by
  have h1 := cutN_scale (N * T (j - k)) k 0
  rw [Nat.zero_add, cutN_zero, Nat.mul_assoc, ← T_add, show j - k + k = j by omega] at h1
  exact h1
theorem cutN_le_T {N k d : Nat} (more : Bool) (h : N < T (k + d)) : cutN N k more ≤ T d := by
  have h1 : N / T k < T d := by rw [Nat.div_lt_iff_lt_mul (T_pos k), ← T_add, Nat.add_comm]; exact h
  have := cutN_hi N k more; omega
theorem cutN_ge_T {N k d : Nat} (more : Bool) (h : T (k + d) ≤ N) : T d ≤ cutN N k more := by
  have h1 : T d ≤ N / T k := by rw [Nat.le_div_iff_mul_le (T_pos k), ← T_add, Nat.add_comm]; exact h
  have := cutN_lo N k more; omega

/-- Without noughts at the end. -/
def trim (N : Nat) (e : Int) : Nat × Int := if h : N = 0 then (0, 0) else if N % 10 = 0 then trim (N / 10) (e + 1) else (N, e)
  termination_by N
  decreasing_by omega
theorem trim_zero (e : Int) : trim 0 e = (0, 0) := by unfold trim; simp
theorem trim_ten {N : Nat} (e : Int) (h : N ≠ 0) (h1 : N % 10 = 0) : trim N e = trim (N / 10) (e + 1) := by rw [trim]; simp [h, h1]
theorem trim_done {N : Nat} (e : Int) (h1 : N % 10 ≠ 0) : trim N e = (N, e) := by rw [trim]; simp [h1]; omega
theorem trim_spec (N : Nat) (e : Int) (h : N ≠ 0) : ∃ k, N = (trim N e).1 * T k ∧ (trim N e).2 = e + k ∧ (trim N e).1 % 10 ≠ 0 := by
  induction N using Nat.strongRecOn generalizing e with
  | ind N ih =>
    by_cases h1 : N % 10 = 0
    · obtain ⟨k, a, b, c⟩ := ih (N / 10) (by omega) (e + 1) (by omega)
      rw [trim_ten e h h1]
      refine ⟨k + 1, ?_, by rw [b]; omega, c⟩
      have : N = N / 10 * 10 := by omega
      rw [T_succ, Nat.mul_comm 10, ← Nat.mul_assoc, ← a]; exact this
    · rw [trim_done e h1]; exact ⟨0, by simp [T], by simp, h1⟩

def sg (neg : Bool) (n : Nat) : Int := if neg then -(n : Int) else n

/-- What a value comes to at first: its digits, cut to 15; and then at 10 to the power -40. -/
def n1 (N : Nat) (more : Bool) : Nat := cutN N (nd N - 15) more
def n2 (N : Nat) (more : Bool) (e : Int) : Nat := cutN (n1 N more) (-40 - (e + (nd N - 15 : Nat))).toNat false
def e2 (N : Nat) (e : Int) : Int := max (e + (nd N - 15 : Nat)) (-40)
/-- A value, rounded; none: there is none. -/
def rnd (neg : Bool) (N : Nat) (more : Bool) (e : Int) : Option (Int × Int) :=
  if n2 N more e = 0 then some (0, 0)
  else if 40 < nd (n2 N more e) + e2 N e then none
  else some (sg neg (trim (n2 N more e) (e2 N e)).1, (trim (n2 N more e) (e2 N e)).2)

theorem cutN_false_zero (k : Nat) : cutN 0 k false = 0 := cutN_small _ (by have := T_pos k; omega)
theorem n1_zero (more : Bool) : n1 0 more = 0 := by unfold n1; rw [nd_zero]; exact cutN_zero 0 more
theorem n1_pos {N : Nat} (more : Bool) (h : N ≠ 0) : n1 N more ≠ 0 := by
  unfold n1
  by_cases h1 : nd N ≤ 15
  · rw [show nd N - 15 = 0 by omega, cutN_zero]; exact h
  · have h2 := T_le_of_nd h
    have h3 := cutN_ge_T (k := nd N - 15) (d := 14) more (by rw [show nd N - 15 + 14 = nd N - 1 by omega]; exact h2)
    have := T_pos 14; omega
theorem n1_le (N : Nat) (more : Bool) : n1 N more ≤ T 15 := by
  unfold n1
  apply cutN_le_T
  exact Nat.lt_of_lt_of_le (lt_T_nd N) (T_mono (by omega))
theorem n2_le (N : Nat) (more : Bool) (e : Int) : n2 N more e ≤ T 15 := by
  unfold n2
  have h := n1_le N more
  generalize n1 N more = a at *
  generalize (-40 - (e + (nd N - 15 : Nat))).toNat = k
  rcases Nat.eq_zero_or_pos k with rfl | hk
  · rw [cutN_zero]; exact h
  · have h1 := cutN_le_T (N := a) (k := k) (d := 15) false (Nat.lt_of_le_of_lt h (T_lt (by omega)))
    exact h1

/-- P1.1. -/
def Rt (m e : Int) : Prop := m = 0 ∧ e = 0 ∨ m ≠ 0 ∧ m.natAbs < T 15 ∧ m.natAbs % 10 ≠ 0 ∧ -40 ≤ e ∧ nd m.natAbs + e ≤ 40
instance (m e : Int) : Decidable (Rt m e) := by unfold Rt; infer_instance
theorem sg_natAbs (neg : Bool) (n : Nat) : (sg neg n).natAbs = n := by unfold sg; split <;> omega
theorem sg_zero {neg : Bool} {n : Nat} : sg neg n = 0 ↔ n = 0 := by unfold sg; split <;> omega
theorem trim_nd {N : Nat} (e : Int) (h : N ≠ 0) : nd (trim N e).1 + (trim N e).2 = nd N + e := by
  obtain ⟨k, a, b, c⟩ := trim_spec N e h
  have h0 : (trim N e).1 ≠ 0 := by omega
  have h1 := nd_mul_T k h0
  rw [← a] at h1
  rw [h1, b]; omega
theorem rnd_right {neg : Bool} {N : Nat} {more : Bool} {e : Int} {r : Int × Int} (h : rnd neg N more e = some r) : Rt r.1 r.2 := by
  unfold rnd at h
  split at h
  · cases h; exact Or.inl ⟨rfl, rfl⟩
  · rename_i h0
    split at h
    · cases h
    · rename_i h1
      cases h
      obtain ⟨k, a, b, c⟩ := trim_spec _ (e2 N e) h0
      have h2 := trim_nd (e2 N e) h0
      right
      have hn : (trim (n2 N more e) (e2 N e)).1 ≠ 0 := by omega
      have he : -40 ≤ e2 N e := by unfold e2; omega
      have hl := n2_le N more e
      refine ⟨fun hh => hn (sg_zero.1 hh), ?_, ?_, ?_, ?_⟩ <;> simp only [sg_natAbs]
      · rcases Nat.eq_zero_or_pos k with rfl | hk
        · have a' : n2 N more e = (trim (n2 N more e) (e2 N e)).1 := by simpa [T] using a
          rw [← a']
          rcases Nat.lt_or_ge (n2 N more e) (T 15) with h5 | h5
          · exact h5
          · exfalso
            have h6 : n2 N more e = 1000000000000000 := by have : T 15 = 1000000000000000 := by decide
                                                           omega
            rw [← a', h6] at c; omega
        · have h3 : T 1 ≤ T k := T_mono hk
          have h4 := Nat.mul_le_mul_left (trim (n2 N more e) (e2 N e)).1 h3
          rw [← a] at h4
          simp only [T, Nat.pow_one] at h4
          omega
      · exact c
      · omega
      · omega
theorem rnd_of_pos {neg : Bool} {N : Nat} {more : Bool} {e : Int} (h0 : n2 N more e ≠ 0) : (Rt (sg neg (trim (n2 N more e) (e2 N e)).1) (trim (n2 N more e) (e2 N e)).2 → rnd neg N more e = some (sg neg (trim (n2 N more e) (e2 N e)).1, (trim (n2 N more e) (e2 N e)).2)) ∧ (¬ Rt (sg neg (trim (n2 N more e) (e2 N e)).1) (trim (n2 N more e) (e2 N e)).2 → rnd neg N more e = none) := by
  have h2 := trim_nd (e2 N e) h0
  obtain ⟨k, a, b, c⟩ := trim_spec _ (e2 N e) h0
  have hn : (trim (n2 N more e) (e2 N e)).1 ≠ 0 := by omega
  constructor
  · intro hr
    unfold rnd
    rw [if_neg h0, if_neg]
    rcases hr with ⟨hr, _⟩ | ⟨_, _, _, _, h5⟩
    · exact absurd (sg_zero.1 hr) hn
    · rw [sg_natAbs] at h5; omega
  · intro hr
    by_cases h1 : 40 < nd (n2 N more e) + e2 N e
    · unfold rnd; rw [if_neg h0, if_pos h1]
    · exfalso
      apply hr
      have : rnd neg N more e = some (sg neg (trim (n2 N more e) (e2 N e)).1, (trim (n2 N more e) (e2 N e)).2) := by unfold rnd; rw [if_neg h0, if_neg h1]
      exact rnd_right this
theorem rnd_of_zero {neg : Bool} {N : Nat} {more : Bool} {e : Int} (h0 : n2 N more e = 0) : rnd neg N more e = some (0, 0) := by unfold rnd; rw [if_pos h0]
theorem n2_zero (more : Bool) (e : Int) : n2 0 more e = 0 := by unfold n2; rw [n1_zero]; exact cutN_small _ (by have := T_pos (-40 - (e + (nd 0 - 15 : Nat))).toNat; omega)
/-- Far up there is none. -/
theorem rnd_far_up {neg : Bool} {N : Nat} {more : Bool} {e : Int} (h0 : N ≠ 0) (he : 40 ≤ e) : rnd neg N more e = none := by
  have h1 := n1_pos more h0
  have h2 : n2 N more e = n1 N more := by unfold n2; rw [show (-40 - (e + (nd N - 15 : Nat))).toNat = 0 by omega, cutN_zero]
  unfold rnd
  rw [h2, if_neg h1, if_pos]
  have h3 := nd_pos h1
  unfold e2
  omega
/-- A right number stays. -/
theorem rnd_of_right {m e : Int} (more : Bool) (h : Rt m e) : rnd (decide (m < 0)) m.natAbs more e = some (m, e) := by
  rcases h with ⟨rfl, rfl⟩ | ⟨h0, h1, h2, h3, h4⟩
  · unfold rnd; rw [if_pos]; unfold n2; rw [show (0 : Int).natAbs = 0 from rfl, n1_zero, cutN_false_zero]
  · have hn : nd m.natAbs ≤ 15 := (nd_le_iff _ _).2 h1
    have a1 : n1 m.natAbs more = m.natAbs := by unfold n1; rw [show nd m.natAbs - 15 = 0 by omega, cutN_zero]
    have a2 : n2 m.natAbs more e = m.natAbs := by
      unfold n2; rw [a1, show (-40 - (e + (nd m.natAbs - 15 : Nat))).toNat = 0 by omega, cutN_zero]
    have a3 : e2 m.natAbs e = e := by unfold e2; omega
    unfold rnd
    rw [a2, a3, if_neg (by omega), if_neg (by omega), trim_done _ h2]
    congr 2
    unfold sg; split <;> simp_all <;> omega
theorem rnd_neg (neg : Bool) (N : Nat) (more : Bool) (e : Int) : rnd (!neg) N more e = (rnd neg N more e).map fun r => (-r.1, r.2) := by
  unfold rnd
  split
  · rfl
  · split
    · rfl
    · simp; cases neg <;> simp [sg]

/-- What is made of the digits that are left. -/
def fin (neg : Bool) (M : Nat) (E : Int) : Option (Int × Int) := if M = 0 then some (0, 0) else if 40 < nd M + E then none else some (sg neg (trim M E).1, (trim M E).2)
theorem rnd_fin (neg : Bool) (N : Nat) (more : Bool) (e : Int) : rnd neg N more e = fin neg (n2 N more e) (e2 N e) := rfl
theorem trim_scale {N : Nat} (h : N ≠ 0) (s : Nat) (e : Int) : trim (N * T s) (e - s) = trim N e := by
  induction s generalizing e with
  | zero => simp [T]
  | succ s ih =>
    have h1 : N * T (s + 1) ≠ 0 := Nat.mul_ne_zero h (by have := T_pos (s + 1); omega)
    have h2 : N * T (s + 1) = N * T s * 10 := by rw [T_succ, Nat.mul_comm 10, Nat.mul_assoc]
    rw [trim_ten _ h1 (by rw [h2]; omega), show N * T (s + 1) / 10 = N * T s by rw [h2]; omega, show e - ((s + 1 : Nat) : Int) + 1 = e - s by omega]
    exact ih e
theorem fin_scale (neg : Bool) (M s : Nat) (E : Int) : fin neg (M * T s) (E - s) = fin neg M E := by
  by_cases h : M = 0
  · subst h; simp [fin]
  · have h1 : M * T s ≠ 0 := Nat.mul_ne_zero h (by have := T_pos s; omega)
    unfold fin
    rw [if_neg h, if_neg h1, nd_mul_T s h, trim_scale h]
    rw [show ((nd M + s : Nat) : Int) + (E - s) = nd M + E by omega]
/-- Noughts behind don't count. -/
theorem rnd_scale (neg : Bool) (N i : Nat) (e : Int) : rnd neg (N * T i) false (e - i) = rnd neg N false e := by
  by_cases h0 : N = 0
  · subst h0; rw [Nat.zero_mul, rnd_of_zero (n2_zero _ _), rnd_of_zero (n2_zero _ _)]
  rw [rnd_fin, rnd_fin]
  unfold n2 e2 n1
  rw [nd_mul_T i h0]
  rcases Nat.lt_or_ge 15 (nd N) with h | h
  · rw [show nd N + i - 15 = nd N - 15 + i by omega, cutN_scale, show e - (i : Int) + ((nd N - 15 + i : Nat) : Int) = e + (nd N - 15 : Nat) by omega]
  · rw [show nd N - 15 = 0 by omega, cutN_zero]
    simp only [Int.ofNat_zero, Int.add_zero]
    obtain ⟨s, hs1, hs2⟩ : ∃ s : Nat, cutN (N * T i) (nd N + i - 15) false = N * T s ∧ e - (i : Int) + ((nd N + i - 15 : Nat) : Int) = e - s := by
      exact ⟨i - (nd N + i - 15), cutN_mul _ _ _ (by omega), by omega⟩
    rw [hs1, hs2]
    rcases (show e < -40 ∨ e ≥ -40 by omega) with h1 | h1
    · rw [show (-40 - (e - (s : Int))).toNat = (-40 - e).toNat + s by omega, cutN_scale, show max (e - (s : Int)) (-40) = max e (-40) by omega]
    · rw [show (-40 - e).toNat = 0 by omega, cutN_zero, show max e (-40) = e by omega]
      rcases (show e - s < -40 ∨ e - s ≥ -40 by omega) with h2 | h2
      · rw [cutN_mul _ _ _ (by omega), show max (e - (s : Int)) (-40) = -40 by omega, ← fin_scale neg N (s - (-40 - (e - (s : Int))).toNat) e]
        congr 1; omega
      · rw [show (-40 - (e - (s : Int))).toNat = 0 by omega, cutN_zero, show max (e - (s : Int)) (-40) = e - s by omega, fin_scale]
/-- Of a long value what stands further behind counts as 'something more'. -/
theorem rnd_sticky (neg : Bool) (N i r : Nat) (more : Bool) (e : Int) (hN : 16 ≤ nd N) (hr : r < T i) : rnd neg (N * T i + r) more (e - i) = rnd neg N (decide (r ≠ 0) || more) e := by
  have h0 : N ≠ 0 := fun h => by rw [h, nd_zero] at hN; omega
  have hq : (N * T i + r) / T i = N := by rw [Nat.mul_comm, Nat.mul_add_div (T_pos i), Nat.div_eq_of_lt hr, Nat.add_zero]
  have hm : (N * T i + r) % T i = r := by rw [Nat.mul_comm, Nat.mul_add_mod, Nat.mod_eq_of_lt hr]
  have hnd : nd (N * T i + r) = nd N + i := by
    have := nd_div_T (N * T i + r) i
    rw [hq] at this; omega
  rw [rnd_fin, rnd_fin]
  unfold n2 e2 n1
  rw [hnd, show nd N + i - 15 = nd N - 15 + i by omega, cutN_sticky _ _ _ _ (by omega), hq, hm, show e - (i : Int) + ((nd N - 15 + i : Nat) : Int) = e + (nd N - 15 : Nat) by omega]

/-- A quotient, rounded: by 40 digits behind, and whether something is left. -/
def divR (neg : Bool) (P Q : Nat) (e : Int) : Option (Int × Int) := rnd neg (P * T 40 / Q) (decide (P * T 40 % Q ≠ 0)) (e - 40)
theorem divR_done (neg : Bool) {P Q j : Nat} (e : Int) (hQ : 0 < Q) (hj : j ≤ 40) (h : P * T j % Q = 0) : rnd neg (P * T j / Q) false (e - j) = divR neg P Q e := by
  have h1 : P * T 40 = P * T j * T (40 - j) := by rw [T_split hj, Nat.mul_assoc]
  obtain ⟨c, hc⟩ := Nat.dvd_of_mod_eq_zero h
  unfold divR
  rw [h1, hc, Nat.mul_assoc, Nat.mul_div_cancel_left _ hQ, Nat.mul_div_cancel_left _ hQ, Nat.mul_mod_right]
  have := rnd_scale neg c (40 - j) (e - j)
  rw [show e - (j : Int) - ((40 - j : Nat) : Int) = e - 40 by omega] at this
  simp only [ne_eq, not_true_eq_false, decide_false]
  exact this.symm
theorem divR_more (neg : Bool) {P Q : Nat} (e : Int) (hP : 0 < P) (hQ : 0 < Q) (hQ' : Q < T 15) (h : P * T 32 % Q ≠ 0) : rnd neg (10 * (P * T 32 / Q) + 1) false (e - 33) = divR neg P Q e := by
  have hN : 16 ≤ nd (P * T 32 / Q) := by
    have h1 : T 16 ≤ P * T 32 / Q := by
      rw [Nat.le_div_iff_mul_le hQ]
      have h2 : T 16 * Q ≤ T 16 * T 16 := Nat.mul_le_mul_left _ (Nat.le_of_lt (Nat.lt_trans hQ' (T_lt (by omega))))
      have h3 : T 16 * T 16 = T 32 := by rw [← T_add]
      have h4 : 1 * T 32 ≤ P * T 32 := Nat.mul_le_mul_right _ hP
      rw [Nat.one_mul] at h4
      exact Nat.le_trans (Nat.le_trans h2 (Nat.le_of_eq h3)) h4
    have := (lt_nd_iff (P * T 32 / Q) 16).2 h1
    omega
  have h1 := rnd_sticky neg (P * T 32 / Q) 1 1 false (e - 32) hN (by decide)
  rw [show P * T 32 / Q * T 1 + 1 = 10 * (P * T 32 / Q) + 1 by simp [T]; omega, show e - 32 - ((1 : Nat) : Int) = e - 33 by omega] at h1
  rw [h1]
  unfold divR
  have hs : P * T 40 = P * T 32 * T 8 := by rw [Nat.mul_assoc, ← T_add]
  have hT8 := T_pos 8
  clear h1
  have hst := fun r more h => rnd_sticky neg (P * T 32 / Q) 8 r more (e - 32) hN h
  generalize T 40 = t40 at *
  generalize T 8 = t8 at *
  have hd : P * T 32 = Q * (P * T 32 / Q) + P * T 32 % Q := (Nat.div_add_mod _ _).symm
  have hr := Nat.mod_lt (P * T 32) hQ
  generalize P * T 32 / Q = q at *
  generalize P * T 32 % Q = r at *
  have hs2 : P * t40 = Q * (q * t8) + r * t8 := by rw [hs, hd, Nat.add_mul, Nat.mul_assoc]
  have hdiv : P * t40 / Q = q * t8 + r * t8 / Q := by rw [hs2, Nat.mul_add_div hQ]
  have hmod : P * t40 % Q = r * t8 % Q := by rw [hs2, Nat.mul_add_mod]
  have hlt : r * t8 / Q < t8 := by rw [Nat.div_lt_iff_lt_mul hQ, Nat.mul_comm (t8)]; exact Nat.mul_lt_mul_of_pos_right hr hT8
  have h2 := hst (r * t8 / Q) (decide (r * t8 % Q ≠ 0)) hlt
  rw [hdiv, hmod, show e - 40 = e - 32 - ((8 : Nat) : Int) by omega, h2]
  congr 1
  simp only [ne_eq, Nat.add_one_ne_zero, not_false_eq_true, decide_true, Bool.true_or]
  by_cases h3 : r * t8 / Q = 0
  · have h4 : r * t8 % Q ≠ 0 := by
      have h5 := Nat.div_add_mod (r * t8) Q
      rw [h3] at h5
      have : 0 < r * t8 := Nat.mul_pos (by omega) hT8
      omega
    simp [h4]
  · simp [h3]
/-- A value as so many of 10 to the power -100. -/
def sc (m e : Int) : Int := m * (T (e + 100).toNat : Nat)
def S15 (x : Nat) : Nat := cutN x (nd x - 15) false * T (nd x - 15)
def R (x : Nat) : Nat := cutN (S15 x) 60 false * T 60
theorem S15_mono {a b : Nat} (h : a ≤ b) : S15 a ≤ S15 b := by
  by_cases h0 : a = 0
  · subst h0; unfold S15; rw [nd_zero, cutN_zero]; omega
  · have h1 := nd_mono h
    rcases Nat.lt_or_ge (nd a) (nd b) with h2 | h2
    · have hb0 : b ≠ 0 := by omega
      have e1 : S15 a ≤ T (nd a) := by
        unfold S15
        by_cases hk : nd a ≤ 15
        · rw [show nd a - 15 = 0 by omega, cutN_zero]; have := lt_T_nd a; simp [T] at *; omega
        · have := cutN_le_T (N := a) (k := nd a - 15) (d := 15) false (by rw [show nd a - 15 + 15 = nd a by omega]; exact lt_T_nd a)
          have h3 := Nat.mul_le_mul_right (T (nd a - 15)) this
          rw [← T_add, show 15 + (nd a - 15) = nd a by omega] at h3; exact h3
      have e2 : T (nd b - 1) ≤ S15 b := by
        unfold S15
        by_cases hk : nd b ≤ 15
        · rw [show nd b - 15 = 0 by omega, cutN_zero]; have := T_le_of_nd hb0; simp [T] at *; omega
        · have := cutN_ge_T (N := b) (k := nd b - 15) (d := 14) false (by rw [show nd b - 15 + 14 = nd b - 1 by omega]; exact T_le_of_nd hb0)
          have h3 := Nat.mul_le_mul_right (T (nd b - 15)) this
          rw [← T_add, show 14 + (nd b - 15) = nd b - 1 by omega] at h3; exact h3
      have e3 : T (nd a) ≤ T (nd b - 1) := T_mono (by omega)
      omega
    · have : nd a = nd b := by omega
      unfold S15; rw [this]; exact Nat.mul_le_mul_right _ (cutN_mono _ h)
theorem R_mono {a b : Nat} (h : a ≤ b) : R a ≤ R b := Nat.mul_le_mul_right _ (cutN_mono 60 (S15_mono h))
theorem R_zero : R 0 = 0 := by unfold R S15; rw [nd_zero, cutN_zero, Nat.zero_mul, cutN_false_zero, Nat.zero_mul]
theorem R_n2 (N : Nat) (e : Int) (he : -100 ≤ e) : R (N * T (e + 100).toNat) = n2 N false e * T (e2 N e + 100).toNat := by
  by_cases h0 : N = 0
  · subst h0; rw [Nat.zero_mul, R_zero]; unfold n2; rw [n1_zero, cutN_false_zero, Nat.zero_mul]
  generalize ht : (e + 100).toNat = t
  have hS : S15 (N * T t) = n1 N false * T (nd N - 15 + t) := by
    unfold S15 n1
    rw [nd_mul_T t h0]
    rcases Nat.lt_or_ge 15 (nd N) with h | h
    · rw [show nd N + t - 15 = nd N - 15 + t by omega, cutN_scale]
    · rw [show nd N - 15 = 0 by omega, cutN_zero, Nat.zero_add]
      rw [cutN_mul _ _ _ (by omega), Nat.mul_assoc, ← T_add]; congr 2; omega
  unfold R
  rw [hS]
  unfold n2 e2
  rcases Nat.lt_or_ge 60 (nd N - 15 + t) with h | h
  · rw [cutN_mul _ _ _ (by omega), show (-40 - (e + (nd N - 15 : Nat))).toNat = 0 by omega, cutN_zero, Nat.mul_assoc, ← T_add]
    congr 2; omega
  · rw [show cutN (n1 N false * T (nd N - 15 + t)) 60 false = cutN (n1 N false) (60 - (nd N - 15 + t)) false by
      rw [← cutN_scale (n1 N false) (nd N - 15 + t)]; congr 1; omega]
    congr 2
    · congr 1; omega
    · omega
theorem sc_trim {N : Nat} {e : Int} (h : N ≠ 0) (he : -100 ≤ e) : (trim N e).1 * T ((trim N e).2 + 100).toNat = N * T (e + 100).toNat := by
  obtain ⟨k, a, b, c⟩ := trim_spec N e h
  have : N * T (e + 100).toNat = (trim N e).1 * T k * T (e + 100).toNat := by rw [← a]
  rw [this, b, Nat.mul_assoc, ← T_add]; congr 2; omega
theorem sc_rnd {neg : Bool} {N : Nat} {e : Int} {r : Int × Int} (he : -100 ≤ e) (h : rnd neg N false e = some r) : sc r.1 r.2 = sg neg (R (N * T (e + 100).toNat)) := by
  rw [R_n2 N e he]
  unfold rnd at h
  split at h
  · cases h; rename_i h0; rw [h0, Nat.zero_mul]; unfold sc sg; split <;> simp
  · split at h
    · cases h
    · rename_i h0 h1
      cases h
      have he2 : -100 ≤ e2 N e := by unfold e2; omega
      have := sc_trim h0 he2
      unfold sc
      rw [← this]
      unfold sg; split <;> simp [Int.natCast_mul, Int.neg_mul]
theorem rnd_none {neg : Bool} {N : Nat} {e : Int} (he : -100 ≤ e) : rnd neg N false e = none ↔ T 140 ≤ R (N * T (e + 100).toNat) := by
  rw [R_n2 N e he]
  unfold rnd
  split
  · rename_i h0; rw [h0, Nat.zero_mul]; simp
  · rename_i h0
    have h1 := nd_mul_T (e2 N e + 100).toNat h0
    have he2 : -100 ≤ e2 N e := by unfold e2; omega
    have h2 := lt_nd_iff (n2 N false e * T (e2 N e + 100).toNat) 140
    rw [h1] at h2
    split
    · simp only [true_iff]; omega
    · simp only [reduceCtorEq, false_iff]; omega

/-- A value below 0 is rounded as it is without its sign. -/
def RS (x : Int) : Int := if x < 0 then -(R x.natAbs : Int) else R x.natAbs
theorem RS_mono {a b : Int} (h : a ≤ b) : RS a ≤ RS b := by
  unfold RS
  split <;> split
  · have := R_mono (a := b.natAbs) (b := a.natAbs) (by omega); omega
  · omega
  · omega
  · have := R_mono (a := a.natAbs) (b := b.natAbs) (by omega); omega

/-- What a list of digits tells, the first one first. -/
def val (l : List Nat) : Nat := l.foldl (fun a d => 10 * a + d) 0
theorem val_nil : val [] = 0 := rfl
theorem foldl_val (l : List Nat) : ∀ a : Nat, l.foldl (fun a d => 10 * a + d) a = a * T l.length + val l := by
  induction l with
  | nil => intro a; simp [val, T]
  | cons d l ih =>
    intro a
    have h1 := ih (10 * a + d)
    have h2 := ih (10 * 0 + d)
    simp only [val, List.foldl_cons, List.length_cons] at *
    rw [h1, h2, T_succ, Nat.add_mul, Nat.add_mul, Nat.mul_comm 10 a, Nat.mul_assoc]
    simp; omega
theorem val_cons (d : Nat) (l : List Nat) : val (d :: l) = d * T l.length + val l := by
  have := foldl_val l (10 * 0 + d)
  simp only [val, List.foldl_cons] at *
  rw [this]; simp
theorem val_append (a b : List Nat) : val (a ++ b) = val a * T b.length + val b := by
  rw [val, List.foldl_append, ← val, foldl_val]
theorem val_snoc (a : List Nat) (d : Nat) : val (a ++ [d]) = 10 * val a + d := by
  rw [val_append]; simp only [List.length_singleton, val_cons, val_nil, T]; simp; omega
def AllD (l : List Nat) : Prop := ∀ d ∈ l, d < 10
theorem AllD.nil : AllD [] := fun _ h => by cases h
theorem AllD.append {a b : List Nat} (ha : AllD a) (hb : AllD b) : AllD (a ++ b) := fun d hd => by
  rcases List.mem_append.1 hd with h | h
  · exact ha d h
  · exact hb d h
theorem AllD.cons {d : Nat} {l : List Nat} (h : d < 10) (hl : AllD l) : AllD (d :: l) := fun x hx => by
  rcases List.mem_cons.1 hx with rfl | h'
  · exact h
  · exact hl x h'
theorem AllD.take {l : List Nat} (h : AllD l) (n : Nat) : AllD (l.take n) := fun d hd => h d (List.mem_of_mem_take hd)
theorem AllD.drop {l : List Nat} (h : AllD l) (n : Nat) : AllD (l.drop n) := fun d hd => h d (List.mem_of_mem_drop hd)
theorem AllD.rep (n d : Nat) (h : d < 10) : AllD (List.replicate n d) := fun x hx => by rw [List.eq_of_mem_replicate hx]; exact h
theorem AllD.at {l : List Nat} (h : AllD l) {i d : Nat} (hd : l[i]? = some d) : d < 10 := h d (List.mem_of_getElem? hd)
theorem val_lt {l : List Nat} (h : AllD l) : val l < T l.length := by
  induction l with
  | nil => simp [val_nil, T]
  | cons d l ih =>
    have h1 := ih (fun x hx => h x (List.mem_cons_of_mem _ hx))
    have h2 := h d (List.mem_cons_self ..)
    rw [val_cons, List.length_cons, T_succ]
    have : d * T l.length ≤ 9 * T l.length := Nat.mul_le_mul_right _ (by omega)
    omega
theorem val_rep0 (n : Nat) : val (List.replicate n 0) = 0 := by
  induction n with
  | zero => rfl
  | succ n ih => rw [List.replicate_succ, val_cons, ih]; omega
theorem val_rep9 (n : Nat) : val (List.replicate n 9) + 1 = T n := by
  induction n with
  | zero => rfl
  | succ n ih => rw [List.replicate_succ, val_cons, List.length_replicate, T_succ]; omega

/-- The digits of n, none of 0. -/
def dig (n : Nat) : List Nat := if _h : n = 0 then [] else dig (n / 10) ++ [n % 10]
theorem dig_zero : dig 0 = [] := by rw [dig]; simp
theorem dig_pos {n : Nat} (h : n ≠ 0) : dig n = dig (n / 10) ++ [n % 10] := by rw [dig]; simp [h]
theorem val_dig (n : Nat) : val (dig n) = n := by
  induction n using Nat.strongRecOn with
  | ind n ih =>
    by_cases h : n = 0
    · subst h; rw [dig_zero]; rfl
    · rw [dig_pos h, val_snoc, ih (n / 10) (by omega)]; omega
theorem dig_all (n : Nat) : AllD (dig n) := by
  induction n using Nat.strongRecOn with
  | ind n ih =>
    by_cases h : n = 0
    · subst h; rw [dig_zero]; exact AllD.nil
    · rw [dig_pos h]; exact (ih (n / 10) (by omega)).append (AllD.cons (by omega) AllD.nil)
theorem dig_length (n : Nat) : (dig n).length = nd n := by
  induction n using Nat.strongRecOn with
  | ind n ih =>
    by_cases h : n = 0
    · subst h; rw [dig_zero, nd_zero]; rfl
    · rw [dig_pos h, nd_pos h, List.length_append, ih (n / 10) (by omega)]; rfl
def strip (l : List Nat) : List Nat := l.dropWhile (· == 0)
theorem strip_nil : strip [] = [] := rfl
theorem strip_zero (l : List Nat) : strip (0 :: l) = strip l := by simp [strip]
theorem strip_pos {d : Nat} (l : List Nat) (h : d ≠ 0) : strip (d :: l) = d :: l := by simp [strip, h]
theorem val_strip (l : List Nat) : val (strip l) = val l := by
  induction l with
  | nil => rfl
  | cons d l ih =>
    by_cases h : d = 0
    · subst h; rw [strip_zero, ih, val_cons]; omega
    · rw [strip_pos l h]
theorem strip_all {l : List Nat} (h : AllD l) : AllD (strip l) := fun d hd => h d ((List.dropWhile_sublist _).subset hd)
/-- A list without noughts ahead is that of what it tells. -/
theorem dig_val_aux : ∀ (n : Nat) (l : List Nat), l.length = n → AllD l → l.head? ≠ some 0 → dig (val l) = l
  | 0, l, hn, _, _ => by rw [List.eq_nil_of_length_eq_zero hn]; exact dig_zero
  | n + 1, l, hn, h, h0 => by
    have hne : l ≠ [] := fun he => by rw [he] at hn; simp at hn
    obtain ⟨a, d, rfl⟩ : ∃ a d, l = a ++ [d] := ⟨l.dropLast, l.getLast hne, (List.dropLast_concat_getLast hne).symm⟩
    have hd : d < 10 := h d (by simp)
    have ha : AllD a := fun x hx => h x (by simp [hx])
    have hlen : a.length = n := by simpa using hn
    rw [val_snoc]
    cases a with
    | nil =>
      have hnz : d ≠ 0 := fun hh => h0 (by rw [hh]; rfl)
      rw [val_nil, dig_pos (by omega), show (10 * 0 + d) / 10 = 0 by omega, dig_zero, show (10 * 0 + d) % 10 = d by omega]
    | cons x a =>
      have h2 := dig_val_aux n (x :: a) hlen ha (by simpa using h0)
      have hnz : val (x :: a) ≠ 0 := fun hh => by rw [hh, dig_zero] at h2; cases h2
      rw [dig_pos (by omega), show (10 * val (x :: a) + d) / 10 = val (x :: a) by omega, show (10 * val (x :: a) + d) % 10 = d by omega, h2]
theorem strip_head (l : List Nat) : (strip l).head? ≠ some 0 := by
  induction l with
  | nil => simp [strip_nil]
  | cons d l ih =>
    by_cases h : d = 0
    · subst h; rw [strip_zero]; exact ih
    · rw [strip_pos l h]; simp [h]
theorem dig_val {l : List Nat} (h : AllD l) : dig (val l) = strip l := by
  rw [← val_strip]; exact dig_val_aux _ _ rfl (strip_all h) (strip_head l)
theorem strip_length {l : List Nat} (h : AllD l) : (strip l).length = nd (val l) := by rw [← dig_val h, dig_length]
theorem strip_dig (n : Nat) : strip (dig n) = dig n := by rw [← dig_val (dig_all n), val_dig]
theorem dig_head {n : Nat} : (dig n).head? ≠ some 0 := by rw [← strip_dig]; exact strip_head _

/-- The first n digits, and what stands behind. -/
theorem take_val {l : List Nat} (h : AllD l) (n : Nat) : val (l.take n) = val l / T (l.length - n) ∧ val (l.drop n) = val l % T (l.length - n) := by
  have h1 : val l = val (l.take n) * T (l.drop n).length + val (l.drop n) := by rw [← val_append, List.take_append_drop]
  have h2 := val_lt (h.drop n)
  rw [List.length_drop] at h1 h2
  rw [h1]
  constructor
  · rw [Nat.mul_comm, Nat.mul_add_div (T_pos _), Nat.div_eq_of_lt h2, Nat.add_zero]
  · rw [Nat.mul_comm, Nat.mul_add_mod, Nat.mod_eq_of_lt h2]
/-- Is it rounded up? By the first digit that is left out, and the others. -/
def upB (q r0 : Nat) (rest : List Nat) (more : Bool) : Bool := decide (5 < r0) || (decide (r0 = 5) && (decide (val rest ≠ 0) || more || decide (q % 2 = 1)))
theorem cut_up {l : List Nat} (h : AllD l) (n : Nat) (r0 : Nat) (rest : List Nat) (more : Bool) (hr : l.drop n = r0 :: rest) :
    cutN (val l) (l.length - n) more = if upB (val (l.take n)) r0 rest more then val (l.take n) + 1 else val (l.take n) := by
  have hn : n < l.length := by
    rcases Nat.lt_or_ge n l.length with h1 | h1
    · exact h1
    · rw [List.drop_eq_nil_of_le h1] at hr; cases hr
  obtain ⟨h1, h2⟩ := take_val h n
  have h3 : (l.drop n).length = l.length - n := List.length_drop
  have hrl : rest.length + 1 = l.length - n := by rw [← h3, hr]; rfl
  have hd := h.drop n
  rw [hr] at hd h2
  have hrest : AllD rest := fun x hx => hd x (List.mem_cons_of_mem _ hx)
  have h0 : r0 < 10 := hd r0 (List.mem_cons_self ..)
  have hv := val_lt hrest
  unfold cutN
  rw [← h1, ← h2, ← hrl, val_cons, T_succ]
  apply ite_iff
  unfold upB
  generalize T rest.length = t at *
  generalize val rest = v at *
  generalize val (l.take n) = q at *
  have e1 : (10 * t < 2 * (r0 * t + v)) ↔ (5 < r0 ∨ r0 = 5 ∧ v ≠ 0) := by
    constructor
    · intro hh
      rcases Nat.lt_trichotomy r0 5 with a | a | a
      · exfalso
        have := Nat.mul_le_mul_right t (show r0 + 1 ≤ 5 from a)
        rw [Nat.add_mul, Nat.one_mul] at this; omega
      · subst a; right; exact ⟨rfl, by omega⟩
      · left; omega
    · rintro (a | ⟨rfl, b⟩)
      · have := Nat.mul_le_mul_right t (show 6 ≤ r0 from a); omega
      · omega
  have e2 : (2 * (r0 * t + v) = 10 * t) ↔ (r0 = 5 ∧ v = 0) := by
    constructor
    · intro hh
      rcases Nat.lt_trichotomy r0 5 with a | a | a
      · exfalso
        have := Nat.mul_le_mul_right t (show r0 + 1 ≤ 5 from a)
        rw [Nat.add_mul, Nat.one_mul] at this; omega
      · subst a; exact ⟨rfl, by omega⟩
      · exfalso
        have := Nat.mul_le_mul_right t (show 6 ≤ r0 from a); omega
    · rintro ⟨rfl, rfl⟩; omega
  rw [e1, e2]
  by_cases a : 5 < r0
  · simp [a]
  · by_cases b : r0 = 5
    · subst b; cases more <;> by_cases c : v = 0 <;> simp [c]
    · simp [a, b]
/-- One more: the last digit that isn't 9, and noughts for those behind it. -/
theorem val_incr (a : List Nat) (d k : Nat) : val (a ++ (d + 1) :: List.replicate k 0) = val (a ++ d :: List.replicate k 9) + 1 := by
  rw [val_append, val_append, val_cons, val_cons, val_rep0]
  have := val_rep9 k
  simp only [List.length_cons, List.length_replicate, Nat.add_mul, Nat.one_mul]
  omega
theorem val_over (k : Nat) : val (1 :: List.replicate k 0) = val (List.replicate k 9) + 1 := by
  rw [val_cons, val_rep0, val_rep9]; simp
end Go.Proofs.YtihfiegopnjeiaaDoor.NM
