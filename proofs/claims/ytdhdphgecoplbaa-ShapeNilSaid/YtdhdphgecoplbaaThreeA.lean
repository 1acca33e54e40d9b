/- Joins as a whole: a contract for both, and that the order of joining is one. -/
import Derived.Test.YtdhdphgecoplbaaJoinC
namespace Go.Proofs.Ytdhdphgecoplbaa
open Go.RowKit
theorem badV_ok (f : Int) (h : I64 f) : (badV f).ok := ⟨⟨by simp [badV], by simp [badV]⟩, ⟨by simp [badV], by simp [badV]⟩, ⟨by simp [badV], by simp [badV]⟩, by simp [badV, ByteArray.size], h⟩
theorem getV_mem {l : List Val} {k : Nat} (h : k < l.length) : getV l k ∈ l := by
  simp [getV, List.getElem?_eq_getElem h]
theorem orNone_cases (R C : Nat) (l : List Val) (i j : Int) (hl : l.length = R * C) : orNoneV R C l i j ∈ l ∨ orNoneV R C l i j = badV 6 := by
  unfold orNoneV
  split
  · rename_i hh
    obtain ⟨a, b, rfl, rfl, ha, hb⟩ := hasB_nat hh
    left
    refine getV_mem ?_
    rw [hl]
    simp only [Int.toNat_natCast]
    calc a * C + b < a * C + C := by omega
      _ = (a + 1) * C := by rw [Nat.succ_mul]
      _ ≤ R * C := Nat.mul_le_mul_right _ ha
  · exact .inr rfl
theorem orNone_out {R C : Nat} {l : List Val} {i j : Int} (h : hasB R C i j = false) : orNoneV R C l i j = badV 6 := by simp [orNoneV, h]
theorem getV_vals (g : Nat → Nat → Val) {R C i j : Nat} (hi : i < R) (hj : j < C) : getV (vals g C (R * C)) (i * C + j) = g i j := by
  have h1 : (i * C + j) / C = i := by rw [Nat.add_comm, Nat.add_mul_div_right _ _ (by omega), Nat.div_eq_of_lt hj]; omega
  have h2 : (i * C + j) % C = j := by rw [Nat.add_comm, Nat.add_mul_mod_self_right, Nat.mod_eq_of_lt hj]
  have h3 : i * C + j < R * C := by
    calc i * C + j < i * C + C := by omega
      _ = (i + 1) * C := by rw [Nat.succ_mul]
      _ ≤ R * C := Nat.mul_le_mul_right _ hi
  simp [getV, vals, h1, h2, h3]
theorem orNone_vals (g : Nat → Nat → Val) (R C : Nat) (i j : Int) : orNoneV R C (vals g C (R * C)) i j = if hasB R C i j then g i.toNat j.toNat else badV 6 := by
  unfold orNoneV
  split
  · rename_i hh
    obtain ⟨a, b, rfl, rfl, ha, hb⟩ := hasB_nat hh
    simp only [Int.toNat_natCast]
    exact getV_vals g ha hb
  · rfl
theorem vals_congr {g g' : Nat → Nat → Val} {C R : Nat} (h : ∀ i j, i < R → j < C → g i j = g' i j) : vals g C (R * C) = vals g' C (R * C) := by
  unfold vals
  refine List.map_congr_left fun t ht => ?_
  have ht' : t < R * C := List.mem_range.1 ht
  have hC : 0 < C := by rcases Nat.eq_zero_or_pos C with rfl | h; · simp at ht'
                        · exact h
  exact h _ _ (Nat.div_lt_of_lt_mul (by rw [Nat.mul_comm]; exact ht')) (Nat.mod_lt _ hC)
theorem vals_mem {g : Nat → Nat → Val} {C k : Nat} {y : Val} (h : y ∈ vals g C k) : ∃ i j, y = g i j := by
  unfold vals at h
  obtain ⟨t, _, rfl⟩ := List.mem_map.1 h
  exact ⟨_, _, rfl⟩
/-- An array as data. -/
structure NA where
  R : Nat
  C : Nat
  l : List Val
def NA.right (a : NA) : Prop := rightA a.R a.C a.l = true
def NA.ok (a : NA) : Prop := ∀ x ∈ a.l, x.ok
theorem rightA_nat {R C : Nat} {l : List Val} : rightA R C l = true ↔ 1 ≤ R ∧ 1 ≤ C ∧ R * C ≤ 4096 ∧ l.length = R * C ∧ ∀ x ∈ l, valRight x = true := by
  simp only [rightA, Bool.and_eq_true, fits_nat, decide_eq_true_eq, List.all_eq_true]
  constructor
  · rintro ⟨⟨⟨h1, h2, h3⟩, h4⟩, h5⟩
    refine ⟨h1, h2, h3, ?_, h5⟩
    have : ((l.length : Nat) : Int) = ((R * C : Nat) : Int) := by rw [h4]; simp
    omega
  · rintro ⟨h1, h2, h3, h4, h5⟩
    exact ⟨⟨⟨h1, h2, h3⟩, by rw [h4]; simp⟩, h5⟩
def besideO (a b : NA) : Option NA := if max a.R b.R * (a.C + b.C) ≤ 4096 then some ⟨max a.R b.R, a.C + b.C, besideL a.R a.C a.l b.R b.C b.l⟩ else none
def belowO (a b : NA) : Option NA := if (a.R + b.R) * max a.C b.C ≤ 4096 then some ⟨a.R + b.R, max a.C b.C, belowL a.R a.C a.l b.R b.C b.l⟩ else none
theorem mem_two {P : Val → Prop} {a b : NA} (hl : a.l.length = a.R * a.C) (hl' : b.l.length = b.R * b.C) (ha : ∀ x ∈ a.l, P x) (hb : ∀ x ∈ b.l, P x) (h6 : P (badV 6)) (q : Prop) [Decidable q] (i j i' j' : Int) :
    P (if q then orNoneV a.R a.C a.l i j else orNoneV b.R b.C b.l i' j') := by
  split
  · rcases orNone_cases a.R a.C a.l i j hl with h | h
    · exact ha _ h
    · rw [h]; exact h6
  · rcases orNone_cases b.R b.C b.l i' j' hl' with h | h
    · exact hb _ h
    · rw [h]; exact h6
theorem beside_all {P : Val → Prop} {a b : NA} (hl : a.l.length = a.R * a.C) (hl' : b.l.length = b.R * b.C) (ha : ∀ x ∈ a.l, P x) (hb : ∀ x ∈ b.l, P x) (h6 : P (badV 6)) : ∀ x ∈ besideL a.R a.C a.l b.R b.C b.l, P x := by
  intro x hx
  obtain ⟨i, j, rfl⟩ := vals_mem hx
  exact mem_two hl hl' ha hb h6 _ _ _ _ _
theorem below_all {P : Val → Prop} {a b : NA} (hl : a.l.length = a.R * a.C) (hl' : b.l.length = b.R * b.C) (ha : ∀ x ∈ a.l, P x) (hb : ∀ x ∈ b.l, P x) (h6 : P (badV 6)) : ∀ x ∈ belowL a.R a.C a.l b.R b.C b.l, P x := by
  intro x hx
  obtain ⟨i, j, rfl⟩ := vals_mem hx
  exact mem_two hl hl' ha hb h6 _ _ _ _ _
theorem I64_6 : I64 6 := ⟨by omega, by omega⟩
theorem beside_right {a b c : NA} (ha : a.right) (hb : b.right) (h : besideO a b = some c) : c.right := by
  obtain ⟨a1, a2, a3, a4, a5⟩ := rightA_nat.1 ha
  obtain ⟨b1, b2, b3, b4, b5⟩ := rightA_nat.1 hb
  unfold besideO at h
  split at h
  · obtain rfl := (Option.some.inj h).symm
    refine rightA_nat.2 ⟨?_, ?_, ?_, ?_, ?_⟩
    · dsimp; omega
    · dsimp; omega
    · assumption
    · simp [besideL, vals_length]
    · exact beside_all a4 b4 a5 b5 (valRight_bad 6 (by omega))
  · cases h
theorem below_right {a b c : NA} (ha : a.right) (hb : b.right) (h : belowO a b = some c) : c.right := by
  obtain ⟨a1, a2, a3, a4, a5⟩ := rightA_nat.1 ha
  obtain ⟨b1, b2, b3, b4, b5⟩ := rightA_nat.1 hb
  unfold belowO at h
  split at h
  · obtain rfl := (Option.some.inj h).symm
    refine rightA_nat.2 ⟨?_, ?_, ?_, ?_, ?_⟩
    · dsimp; omega
    · dsimp; omega
    · assumption
    · simp [belowL, vals_length]
    · exact below_all a4 b4 a5 b5 (valRight_bad 6 (by omega))
  · cases h
theorem hasB_iff {R C : Nat} {i j : Int} : hasB R C i j = true ↔ 0 ≤ i ∧ i < R ∧ 0 ≤ j ∧ j < C := by
  simp only [hasB, Bool.and_eq_true, decide_eq_true_eq, and_assoc]
theorem hasB_no {R C : Nat} {i j : Int} (h : ¬ (0 ≤ i ∧ i < R ∧ 0 ≤ j ∧ j < C)) : hasB R C i j = false := by
  cases hh : hasB R C i j with
  | false => rfl
  | true => exact absurd (hasB_iff.1 hh) h
theorem beside_at (a b : NA) (i j : Int) : orNoneV (max a.R b.R) (a.C + b.C) (besideL a.R a.C a.l b.R b.C b.l) i j = if j < a.C then orNoneV a.R a.C a.l i j else orNoneV b.R b.C b.l i (j - a.C) := by
  rw [besideL, orNone_vals]
  split
  · rename_i h
    obtain ⟨x, y, rfl, rfl, hx, hy⟩ := hasB_nat h
    simp only [Int.toNat_natCast]
    by_cases hj : y < a.C
    · rw [if_pos hj, if_pos (by omega)]
    · rw [if_neg hj, if_neg (by omega)]
  · rename_i h
    have h' : ¬ (0 ≤ i ∧ i < ((max a.R b.R : Nat) : Int) ∧ 0 ≤ j ∧ j < ((a.C + b.C : Nat) : Int)) := fun k => h (hasB_iff.2 k)
    split
    · exact (orNone_out (hasB_no (by omega))).symm
    · exact (orNone_out (hasB_no (by omega))).symm
theorem below_at (a b : NA) (i j : Int) : orNoneV (a.R + b.R) (max a.C b.C) (belowL a.R a.C a.l b.R b.C b.l) i j = if i < a.R then orNoneV a.R a.C a.l i j else orNoneV b.R b.C b.l (i - a.R) j := by
  rw [belowL, orNone_vals]
  split
  · rename_i h
    obtain ⟨x, y, rfl, rfl, hx, hy⟩ := hasB_nat h
    simp only [Int.toNat_natCast]
    by_cases hj : x < a.R
    · rw [if_pos hj, if_pos (by omega)]
    · rw [if_neg hj, if_neg (by omega)]
  · rename_i h
    have h' : ¬ (0 ≤ i ∧ i < ((a.R + b.R : Nat) : Int) ∧ 0 ≤ j ∧ j < ((max a.C b.C : Nat) : Int)) := fun k => h (hasB_iff.2 k)
    split
    · exact (orNone_out (hasB_no (by omega))).symm
    · exact (orNone_out (hasB_no (by omega))).symm
theorem beside_three (a b c : NA) : (besideO a b).bind (fun x => besideO x c) = (besideO b c).bind (fun y => besideO a y) := by
  by_cases h : max (max a.R b.R) c.R * (a.C + b.C + c.C) ≤ 4096
  · have h1 : max a.R b.R * (a.C + b.C) ≤ 4096 := Nat.le_trans (Nat.mul_le_mul (by omega) (by omega)) h
    have h2 : max b.R c.R * (b.C + c.C) ≤ 4096 := Nat.le_trans (Nat.mul_le_mul (by omega) (by omega)) h
    have h3 : max a.R (max b.R c.R) * (a.C + (b.C + c.C)) ≤ 4096 := by rw [← Nat.max_assoc, ← Nat.add_assoc]; exact h
    simp only [besideO, if_pos h1, if_pos h2, Option.bind_some, if_pos h, if_pos h3, Option.some.injEq, NA.mk.injEq]
    refine ⟨Nat.max_assoc _ _ _, Nat.add_assoc _ _ _, ?_⟩
    rw [besideL, Nat.max_assoc, Nat.add_assoc]
    conv => rhs; rw [besideL]
    refine vals_congr fun i j hi hj => ?_
    rw [beside_at a b, beside_at b c]
    by_cases q1 : j < a.C
    · rw [if_pos (by omega), if_pos (by omega), if_pos q1]
    · rw [if_neg q1]
      by_cases q2 : j < a.C + b.C
      · rw [if_pos q2, if_neg (by omega), if_pos (by omega)]
      · rw [if_neg q2, if_neg (by omega)]
        congr 1
        omega
  · have h3 : ¬ max a.R (max b.R c.R) * (a.C + (b.C + c.C)) ≤ 4096 := by rw [← Nat.max_assoc, ← Nat.add_assoc]; exact h
    have e1 : (besideO a b).bind (fun x => besideO x c) = none := by
      simp only [besideO]
      split
      · simp only [Option.bind_some, if_neg h]
      · rfl
    have e2 : (besideO b c).bind (fun y => besideO a y) = none := by
      simp only [besideO]
      split
      · simp only [Option.bind_some, if_neg h3]
      · rfl
    rw [e1, e2]
theorem below_three (a b c : NA) : (belowO a b).bind (fun x => belowO x c) = (belowO b c).bind (fun y => belowO a y) := by
  by_cases h : (a.R + b.R + c.R) * max (max a.C b.C) c.C ≤ 4096
  · have h1 : (a.R + b.R) * max a.C b.C ≤ 4096 := Nat.le_trans (Nat.mul_le_mul (by omega) (by omega)) h
    have h2 : (b.R + c.R) * max b.C c.C ≤ 4096 := Nat.le_trans (Nat.mul_le_mul (by omega) (by omega)) h
    have h3 : (a.R + (b.R + c.R)) * max a.C (max b.C c.C) ≤ 4096 := by rw [← Nat.max_assoc, ← Nat.add_assoc]; exact h
    simp only [belowO, if_pos h1, if_pos h2, Option.bind_some, if_pos h, if_pos h3, Option.some.injEq, NA.mk.injEq]
    refine ⟨Nat.add_assoc _ _ _, Nat.max_assoc _ _ _, ?_⟩
    rw [belowL, Nat.max_assoc, Nat.add_assoc]
    conv => rhs; rw [belowL]
    refine vals_congr fun i j hi hj => ?_
    rw [below_at a b, below_at b c]
    by_cases q1 : i < a.R
    · rw [if_pos (by omega), if_pos (by omega), if_pos q1]
    · rw [if_neg q1]
      by_cases q2 : i < a.R + b.R
      · rw [if_pos q2, if_neg (by omega), if_pos (by omega)]
      · rw [if_neg q2, if_neg (by omega)]
        congr 1
        omega
  · have h3 : ¬ (a.R + (b.R + c.R)) * max a.C (max b.C c.C) ≤ 4096 := by rw [← Nat.max_assoc, ← Nat.add_assoc]; exact h
    have e1 : (belowO a b).bind (fun x => belowO x c) = none := by
      simp only [belowO]
      split
      · simp only [Option.bind_some, if_neg h]
      · rfl
    have e2 : (belowO b c).bind (fun y => belowO a y) = none := by
      simp only [belowO]
      split
      · simp only [Option.bind_some, if_neg h3]
      · rfl
    rw [e1, e2]
/-- What is handed back where there may be none. -/
def orZ (o : Option NA) : NA := o.getD ⟨0, 0, []⟩
/-- A contract of a join. -/
def JoinC (f : FuncId) (J : NA → NA → Option NA) : Prop :=
  ∀ (a b : NA) (A B : Option Addr) (n cap n' cap' : Nat) (w : World), ArrIn w A n cap a.l → ArrIn w B n' cap' b.l → a.right → b.right → ∀ x : NA, ∀ k : Bool, orZ (J a b) = x → (J a b).isSome = k →
    Calls Try.prog f #[AV a.R a.C (.slice A n cap), AV b.R b.C (.slice B n' cap')] w fun e w' => ∃ D m c, e = .returned (.tuple #[AV x.R x.C (.slice D m c), .bool k]) ∧ ArrIn w' D m c x.l ∧ SlV w.heap.size w' D x.l ∧ Ext w w'
theorem fits_no {a b : Nat} (_h1 : 1 ≤ a) (_h2 : 1 ≤ b) (h : ¬ a * b ≤ 4096) : fitsB a b = false := by
  cases hh : fitsB a b with
  | false => rfl
  | true => exact absurd (fits_nat.1 hh).2.2 h
theorem beside_c : JoinC 35 besideO := by
  intro a b A B n cap n' cap' w h h' ha hb x k hx hk
  obtain ⟨a1, a2, a3, a4, a5⟩ := rightA_nat.1 ha
  obtain ⟨b1, b2, b3, b4, b5⟩ := rightA_nat.1 hb
  by_cases hf : max a.R b.R * (a.C + b.C) ≤ 4096
  · simp only [besideO, if_pos hf, orZ, Option.getD_some, Option.isSome_some] at hx hk
    subst hx hk
    refine (beside_yes a.R a.C b.R b.C A B n cap n' cap' a.l b.l w h h' ha hb hf).mono ?_
    rintro e w' ⟨D, c, rfl, hs, hc, hX⟩
    exact ⟨D, _, c, rfl, ⟨Rd.mono hs (Nat.zero_le _), by simp [besideL, vals_length], hc, by omega, beside_all a4 b4 h.ok h'.ok (badV_ok 6 I64_6)⟩, hs, hX⟩
  · simp only [besideO, if_neg hf, orZ, Option.getD_none, Option.isSome_none] at hx hk
    subst hx hk
    refine (beside_no a.R a.C b.R b.C A B n cap n' cap' a.l b.l w h h' ?_).mono ?_
    · rw [show (max (a.R : Int) (b.R : Int)) = ((max a.R b.R : Nat) : Int) by omega, show ((a.C : Int) + (b.C : Int)) = ((a.C + b.C : Nat) : Int) by omega, fits_no (by omega) (by omega) hf, Bool.and_false]
    rintro e w' ⟨rfl, hX⟩
    exact ⟨none, 0, 0, rfl, ArrIn.none_ _, SlV.nil _ _ _, hX⟩
theorem below_c : JoinC 36 belowO := by
  intro a b A B n cap n' cap' w h h' ha hb x k hx hk
  obtain ⟨a1, a2, a3, a4, a5⟩ := rightA_nat.1 ha
  obtain ⟨b1, b2, b3, b4, b5⟩ := rightA_nat.1 hb
  by_cases hf : (a.R + b.R) * max a.C b.C ≤ 4096
  · simp only [belowO, if_pos hf, orZ, Option.getD_some, Option.isSome_some] at hx hk
    subst hx hk
    refine (below_yes a.R a.C b.R b.C A B n cap n' cap' a.l b.l w h h' ha hb hf).mono ?_
    rintro e w' ⟨D, c, rfl, hs, hc, hX⟩
    exact ⟨D, _, c, rfl, ⟨Rd.mono hs (Nat.zero_le _), by simp [belowL, vals_length], hc, by omega, below_all a4 b4 h.ok h'.ok (badV_ok 6 I64_6)⟩, hs, hX⟩
  · simp only [belowO, if_neg hf, orZ, Option.getD_none, Option.isSome_none] at hx hk
    subst hx hk
    refine (below_no a.R a.C b.R b.C A B n cap n' cap' a.l b.l w h h' ?_).mono ?_
    · rw [show (max (a.C : Int) (b.C : Int)) = ((max a.C b.C : Nat) : Int) by omega, show ((a.R : Int) + (b.R : Int)) = ((a.R + b.R : Nat) : Int) by omega, fits_no (by omega) (by omega) hf, Bool.and_false]
    rintro e w' ⟨rfl, hX⟩
    exact ⟨none, 0, 0, rfl, ArrIn.none_ _, SlV.nil _ _ _, hX⟩
end Go.Proofs.Ytdhdphgecoplbaa
