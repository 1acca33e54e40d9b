/- Sums and products of numbers, by signed values: plain, no program in sight. -/
import Derived.Test.YtihfiegopnjeiaaDoorMath
namespace Go.Proofs.YtihfiegopnjeiaaDoor.NM
set_option linter.unusedSimpArgs false
set_option linter.unusedVariables false

/-- A value with its sign, rounded. -/
def rndI (x : Int) (e : Int) : Option (Int × Int) := rnd (decide (x < 0)) x.natAbs false e
theorem rnd_nought (neg more : Bool) (e : Int) : rnd neg 0 more e = some (0, 0) := rnd_of_zero (n2_zero _ _)
theorem rnd_sg (neg : Bool) (N : Nat) (e : Int) : rnd neg N false e = rndI (sg neg N) e := by
  unfold rndI
  rw [sg_natAbs]
  by_cases h : N = 0
  · subst h; rw [rnd_nought, rnd_nought]
  · congr 1
    cases neg <;> simp [sg] <;> omega
theorem rndI_neg (x e : Int) : rndI (-x) e = (rndI x e).map fun r => (-r.1, r.2) := by
  have h := rnd_neg (decide (x < 0)) x.natAbs false e
  have h1 : sg (!decide (x < 0)) x.natAbs = -x := by unfold sg; by_cases hx : x < 0 <;> simp [hx] <;> omega
  rw [rnd_sg, h1] at h
  exact h
theorem sg_nat (x : Int) : sg (decide (x < 0)) x.natAbs = x := by unfold sg; by_cases hx : x < 0 <;> simp [hx] <;> omega
/-- The sum of two numbers, as so many of 10 to the power of the lower power. -/
def sumI (ma ea mb eb : Int) : Int := ma * (T (ea - min ea eb).toNat : Nat) + mb * (T (eb - min ea eb).toNat : Nat)
def addS (ma ea mb eb : Int) : Option (Int × Int) := if Rt ma ea ∧ Rt mb eb then rndI (sumI ma ea mb eb) (min ea eb) else none
def mulS (ma ea mb eb : Int) : Option (Int × Int) := if Rt ma ea ∧ Rt mb eb then rndI (ma * mb) (ea + eb) else none
/-- An exact sum: below 0, and without its sign. -/
def plusN (na nb : Bool) (Na Nb : Nat) : Bool × Nat := if na = nb then (na, Na + Nb) else if Na < Nb then (nb, Nb - Na) else (na, Na - Nb)
theorem plusN_sg (na nb : Bool) (Na Nb : Nat) : sg (plusN na nb Na Nb).1 (plusN na nb Na Nb).2 = sg na Na + sg nb Nb := by
  unfold plusN
  cases na <;> cases nb <;> simp [sg]
  · split <;> simp <;> omega
  · split <;> simp <;> omega
  · omega
theorem sg_mul_nat (neg : Bool) (N k : Nat) : sg neg (N * k) = sg neg N * (k : Int) := by
  cases neg <;> simp [sg, Int.neg_mul]
theorem rnd_plus (ma ea mb eb : Int) : rnd (plusN (decide (ma < 0)) (decide (mb < 0)) (ma.natAbs * T (ea - min ea eb).toNat) (mb.natAbs * T (eb - min ea eb).toNat)).1 (plusN (decide (ma < 0)) (decide (mb < 0)) (ma.natAbs * T (ea - min ea eb).toNat) (mb.natAbs * T (eb - min ea eb).toNat)).2 false (min ea eb) = rndI (sumI ma ea mb eb) (min ea eb) := by
  rw [rnd_sg, plusN_sg, sg_mul_nat, sg_mul_nat, sg_nat, sg_nat]; rfl

/-- What a list of signed digits tells. -/
def valI (l : List Int) : Int := l.foldl (fun a d => 10 * a + d) 0
theorem foldl_valI (l : List Int) : ∀ a : Int, l.foldl (fun a d => 10 * a + d) a = a * (T l.length : Nat) + valI l := by
  induction l with
  | nil => intro a; simp [valI, T]
  | cons d l ih =>
    intro a
    have h1 := ih (10 * a + d)
    have h2 := ih (10 * 0 + d)
    simp only [valI, List.foldl_cons, List.length_cons] at *
    rw [h1, h2, T_succ, Int.natCast_mul, Int.add_mul, Int.add_mul, Int.mul_comm 10 a, Int.mul_assoc]
    simp; omega
theorem valI_cons (d : Int) (l : List Int) : valI (d :: l) = d * (T l.length : Nat) + valI l := by
  have := foldl_valI l (10 * 0 + d)
  simp only [valI, List.foldl_cons] at *
  rw [this]; simp
theorem valI_nil : valI [] = 0 := rfl
theorem valI_nat (l : List Nat) : valI (l.map fun d : Nat => (d : Int)) = (val l : Int) := by
  induction l with
  | nil => rfl
  | cons d l ih => rw [List.map_cons, valI_cons, val_cons, ih, List.length_map, Int.natCast_add, Int.natCast_mul]
theorem valI_neg (l : List Int) : valI (l.map fun d => -d) = - valI l := by
  induction l with
  | nil => rfl
  | cons d l ih => rw [List.map_cons, valI_cons, valI_cons, ih, List.length_map, Int.neg_mul]; omega
theorem valI_rep0 (n : Nat) : valI (List.replicate n 0) = 0 := by
  induction n with
  | zero => rfl
  | succ n ih => rw [List.replicate_succ, valI_cons, ih]; omega
/-- Digits added up, place by place. -/
theorem valI_zip : ∀ (a b : List Int), a.length = b.length → valI (List.zipWith (· + ·) a b) = valI a + valI b
  | [], [], _ => rfl
  | x :: a, y :: b, h => by
    have h' : a.length = b.length := by simpa using h
    rw [List.zipWith_cons_cons, valI_cons, valI_cons, valI_cons, valI_zip a b h', List.length_zipWith, h', Nat.min_self, Int.add_mul]; omega
/-- Signed digits from -9 to 9: less than the next place. -/
theorem valI_small {l : List Int} (h : ∀ d ∈ l, -9 ≤ d ∧ d ≤ 9) : -((T l.length : Nat) : Int) < valI l ∧ valI l < (T l.length : Nat) := by
  induction l with
  | nil => simp [valI_nil, T]
  | cons d l ih =>
    have h1 := ih (fun x hx => h x (List.mem_cons_of_mem _ hx))
    have h2 := h d (List.mem_cons_self ..)
    rw [valI_cons, List.length_cons, T_succ, Int.natCast_mul]
    have a1 : d * ((T l.length : Nat) : Int) ≤ 9 * ((T l.length : Nat) : Int) := Int.mul_le_mul_of_nonneg_right h2.2 (by omega)
    have a2 : (-9) * ((T l.length : Nat) : Int) ≤ d * ((T l.length : Nat) : Int) := Int.mul_le_mul_of_nonneg_right h2.1 (by omega)
    generalize ((T l.length : Nat) : Int) = t at *
    omega
/-- Are they such digits as a sum, or a difference, has? -/
def DOk (l : List Int) : Prop := (∀ d ∈ l, -9 ≤ d ∧ d ≤ 9) ∨ (∀ d ∈ l, 0 ≤ d ∧ d ≤ 18) ∨ (∀ d ∈ l, -18 ≤ d ∧ d ≤ 0)
theorem valI_nonneg {l : List Int} (h : ∀ d ∈ l, 0 ≤ d) : 0 ≤ valI l := by
  induction l with
  | nil => simp [valI_nil]
  | cons d l ih =>
    have h1 := ih (fun x hx => h x (List.mem_cons_of_mem _ hx))
    have h2 := Int.mul_nonneg (h d (List.mem_cons_self ..)) (show (0 : Int) ≤ (T l.length : Nat) by omega)
    rw [valI_cons]; omega
theorem valI_nonpos {l : List Int} (h : ∀ d ∈ l, d ≤ 0) : valI l ≤ 0 := by
  have := valI_nonneg (l := l.map fun d => -d) (by
    intro d hd
    obtain ⟨x, hx, rfl⟩ := List.mem_map.1 hd
    have := h x hx; omega)
  rw [valI_neg] at this; omega
theorem DOk.tail {d : Int} {l : List Int} (h : DOk (d :: l)) : DOk l := by
  rcases h with h | h | h
  · exact Or.inl fun x hx => h x (List.mem_cons_of_mem _ hx)
  · exact Or.inr (Or.inl fun x hx => h x (List.mem_cons_of_mem _ hx))
  · exact Or.inr (Or.inr fun x hx => h x (List.mem_cons_of_mem _ hx))
/-- The sign by the first digit that isn't 0. -/
def sgn : List Int → Bool
  | [] => false
  | d :: l => if d = 0 then sgn l else decide (d < 0)
theorem sgn_spec {l : List Int} (h : DOk l) : sgn l = decide (valI l < 0) := by
  induction l with
  | nil => simp [sgn, valI_nil]
  | cons d l ih =>
    rw [sgn, valI_cons]
    by_cases h0 : d = 0
    · rw [if_pos h0, ih h.tail, h0]; simp
    · rw [if_neg h0]
      have hT := T_pos l.length
      rcases h with h | h | h
      · have h1 := valI_small (l := l) (fun x hx => h x (List.mem_cons_of_mem _ hx))
        generalize ((T l.length : Nat) : Int) = t at *
        by_cases hd : d < 0
        · have := Int.mul_le_mul_of_nonneg_right (show d ≤ -1 by omega) (show 0 ≤ t by omega)
          simp [hd]; omega
        · have := Int.mul_le_mul_of_nonneg_right (show 1 ≤ d by omega) (show 0 ≤ t by omega)
          simp [hd]; omega
      · have h1 := valI_nonneg (l := l) (fun x hx => (h x (List.mem_cons_of_mem _ hx)).1)
        have h2 := (h d (List.mem_cons_self ..)).1
        have := Int.mul_nonneg h2 (show (0 : Int) ≤ (T l.length : Nat) by omega)
        have e1 : ¬ d < 0 := by omega
        simp only [e1, decide_false]
        symm
        rw [decide_eq_false_iff_not]
        omega
      · have h1 := valI_nonpos (l := l) (fun x hx => (h x (List.mem_cons_of_mem _ hx)).2)
        have h2 := (h d (List.mem_cons_self ..)).2
        have := Int.mul_le_mul_of_nonneg_right (show d ≤ -1 by omega) (show (0 : Int) ≤ (T l.length : Nat) by omega)
        have e1 : d < 0 := by omega
        have hT' : (0 : Int) < ((T l.length : Nat) : Int) := by omega
        simp only [e1, decide_true]
        symm
        rw [decide_eq_true_eq]
        omega
theorem drop_at {l : List Nat} {j x : Nat} (h : l[j]? = some x) : l.drop j = x :: l.drop (j + 1) := by
  have hj : j < l.length := by
    rcases Nat.lt_or_ge j l.length with h1 | h1
    · exact h1
    · rw [List.getElem?_eq_none h1] at h; cases h
  rw [List.drop_eq_getElem_cons hj]
  rw [List.getElem?_eq_getElem hj] at h
  rw [Option.some.inj h]
theorem lt_at {α : Type} {l : List α} {j : Nat} {x : α} (h : l[j]? = some x) : j < l.length := by
  rcases Nat.lt_or_ge j l.length with h1 | h1
  · exact h1
  · rw [List.getElem?_eq_none h1] at h; cases h
/-- What of the digits is added up from place j on: a carry, and the digits. -/
theorem add_step {X Y S : List Nat} {j x y c : Nat} (hx : X[j]? = some x) (hy : Y[j]? = some y) (hl : X.length = Y.length) (hs : S.length = X.length - (j + 1)) (h : val (X.drop (j + 1)) + val (Y.drop (j + 1)) = c * T S.length + val S) :
    val (X.drop j) + val (Y.drop j) = (x + y + c) / 10 * T (S.length + 1) + val ((x + y + c) % 10 :: S) := by
  have l1 : (X.drop (j + 1)).length = S.length := by simp; omega
  have l2 : (Y.drop (j + 1)).length = S.length := by simp; omega
  rw [drop_at hx, drop_at hy, val_cons, val_cons, val_cons, l1, l2, T_succ]
  generalize T S.length = t at *
  have h3 : x * t + val (X.drop (j + 1)) + (y * t + val (Y.drop (j + 1))) = (x + y + c) * t + val S := by
    rw [Nat.add_mul, Nat.add_mul]; omega
  rw [h3]
  have h4 := Nat.div_add_mod (x + y + c) 10
  generalize (x + y + c) / 10 = q at *
  generalize (x + y + c) % 10 = r at *
  rw [← h4, Nat.add_mul, Nat.mul_comm 10 q, Nat.mul_assoc]
  omega
/-- What is taken away from place j on: what is borrowed, and the digits. -/
theorem sub_step {X Y S : List Nat} {j x y c d c' : Nat} (hx : X[j]? = some x) (hy : Y[j]? = some y) (hl : X.length = Y.length) (hs : S.length = X.length - (j + 1)) (h : val (X.drop (j + 1)) + c * T S.length = val (Y.drop (j + 1)) + val S) (hd : x + 10 * c' = y + c + d) :
    val (X.drop j) + c' * T (S.length + 1) = val (Y.drop j) + val (d :: S) := by
  have l1 : (X.drop (j + 1)).length = S.length := by simp; omega
  have l2 : (Y.drop (j + 1)).length = S.length := by simp; omega
  rw [drop_at hx, drop_at hy, val_cons, val_cons, val_cons, l1, l2, T_succ]
  generalize T S.length = t at *
  have h1 : x * t + 10 * c' * t = y * t + c * t + d * t := by rw [← Nat.add_mul, hd, Nat.add_mul, Nat.add_mul]
  rw [← Nat.mul_assoc, Nat.mul_comm c' 10]
  omega
/-- A digit put in the place of another one. -/
theorem val_set {l : List Nat} {p d : Nat} (d' : Nat) (h : l[p]? = some d) : val (l.set p d') + d * T (l.length - 1 - p) = val l + d' * T (l.length - 1 - p) := by
  have hp := lt_at h
  have h1 : l = l.take p ++ d :: l.drop (p + 1) := by rw [← drop_at h, List.take_append_drop]
  have h2 : l.set p d' = l.take p ++ d' :: l.drop (p + 1) := by
    conv => lhs; rw [h1]
    rw [List.set_append_right _ _ (by simp; omega)]
    congr 1
    rw [show p - (l.take p).length = 0 by simp; omega]; rfl
  have h3 : (l.drop (p + 1)).length = l.length - 1 - p := by simp; omega
  have e1 : val (l.set p d') = val (l.take p) * T (l.drop (p + 1)).length * 10 + d' * T (l.drop (p + 1)).length + val (l.drop (p + 1)) := by
    rw [h2, val_append, val_cons, List.length_cons, T_succ, Nat.mul_comm 10, ← Nat.mul_assoc, Nat.add_assoc]
  have e2 : val l = val (l.take p) * T (l.drop (p + 1)).length * 10 + d * T (l.drop (p + 1)).length + val (l.drop (p + 1)) := by
    conv => lhs; rw [h1]
    rw [val_append, val_cons, List.length_cons, T_succ, Nat.mul_comm 10, ← Nat.mul_assoc, Nat.add_assoc]
  rw [e1, e2, h3]; omega
theorem AllD.set {l : List Nat} (h : AllD l) {p d : Nat} (hd : d < 10) : AllD (l.set p d) := fun x hx => by
  rcases List.mem_or_eq_of_mem_set hx with h1 | h1
  · exact h x h1
  · subst h1; exact hd
end Go.Proofs.YtihfiegopnjeiaaDoor.NM
