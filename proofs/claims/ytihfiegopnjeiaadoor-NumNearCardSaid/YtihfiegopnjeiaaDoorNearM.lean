/- The plain law of 'near': a rounded number is near the exact value. -/
import Derived.Test.YtihfiegopnjeiaaDoorNearW
namespace Go.Proofs.YtihfiegopnjeiaaDoor
set_option linter.unusedSimpArgs false
set_option linter.unusedVariables false
open Go.RowKit NM
theorem R_near (X : Nat) : 2 * X ≤ 2 * R X + ((if nd X - 15 = 0 then 0 else T (nd X - 15)) + if nd X - 15 < 60 then T 60 else 0) ∧ 2 * R X ≤ 2 * X + ((if nd X - 15 = 0 then 0 else T (nd X - 15)) + if nd X - 15 < 60 then T 60 else 0) := by
  have h1 := cutN_near X (nd X - 15) false
  have hc : nd X - 15 = 0 → cutN X (nd X - 15) false = X := fun h => by rw [h, cutN_zero]
  unfold R S15
  generalize nd X - 15 = k at *
  generalize cutN X k false = c at *
  have h1 : 2 * X ≤ 2 * (c * T k) + (if k = 0 then 0 else T k) ∧ 2 * (c * T k) ≤ 2 * X + (if k = 0 then 0 else T k) := by
    by_cases hk : k = 0
    · rw [if_pos hk]
      have h0 := hc hk
      subst hk
      rw [h0, show T 0 = 1 from rfl]; omega
    · rw [if_neg hk]; exact h1
  generalize (if k = 0 then 0 else T k) = Z at *
  by_cases hk : k < 60
  · rw [if_pos hk]
    have h2 := cutN_near (c * T k) 60 false
    omega
  · rw [if_neg hk, cutN_mul _ _ _ (by omega), Nat.mul_assoc, ← T_add, show k - 60 + 60 = k by omega]
    omega
theorem sg_not (b : Bool) (n : Nat) : sg (!b) n = - sg b n := by cases b <;> simp [sg]
theorem sg_diff {nv : Bool} {a b c : Nat} (h1 : 2 * a ≤ 2 * b + c) (h2 : 2 * b ≤ 2 * a + c) : 2 * (sg nv a - sg nv b).natAbs ≤ c := by
  cases nv <;> simp [sg] <;> omega
theorem near_off {m e : Int} {nv : Bool} {N : Nat} {ev : Int} (h : rnd nv N false ev = some (m, e)) (hev : -100 ≤ ev) (he : -100 ≤ e) :
    (plusN nv (!decide (m < 0)) (N * T (ev - min ev e).toNat) (m.natAbs * T (e - min ev e).toNat)).2 * T (min ev e + 100).toNat = (sg nv (N * T (ev + 100).toNat) - sg nv (R (N * T (ev + 100).toNat))).natAbs := by
  have h1 := plusN_sg nv (!decide (m < 0)) (N * T (ev - min ev e).toNat) (m.natAbs * T (e - min ev e).toNat)
  rw [sg_not, sg_mul_nat, sg_mul_nat, sg_nat] at h1
  have h2 := sum_sc (ma := sg nv N) (ea := ev) (mb := -m) (eb := e) hev he
  rw [sc_neg, sc_sg] at h2
  have h3 := sc_rnd hev h
  simp only at h3
  rw [h3] at h2
  rw [← Int.sub_eq_add_neg] at h2
  rw [← h2, Int.natAbs_mul, Int.natAbs_natCast]
  congr 1
  have h4 : (sumI (sg nv N) ev (-m) e) = sg (plusN nv (!decide (m < 0)) (N * T (ev - min ev e).toNat) (m.natAbs * T (e - min ev e).toNat)).1 (plusN nv (!decide (m < 0)) (N * T (ev - min ev e).toNat) (m.natAbs * T (e - min ev e).toNat)).2 := by
    rw [h1]; unfold sumI; rw [Int.neg_mul]
  rw [h4, sg_natAbs]
theorem near_true {m e : Int} {nv : Bool} {N : Nat} {ev : Int} (h : rnd nv N false ev = some (m, e)) (hev : -90 ≤ ev) (he : -40 ≤ e) : nearB m e nv N ev = true := by
  have h1 := near_off h (by omega) (by omega)
  have h2 := R_near (N * T (ev + 100).toNat)
  have h3 := sg_diff (nv := nv) h2.1 h2.2
  rw [← h1] at h3
  have h0 : N = 0 → (plusN nv (!decide (m < 0)) (N * T (ev - min ev e).toNat) (m.natAbs * T (e - min ev e).toNat)).2 = 0 := by
    intro hN
    rw [hN, Nat.zero_mul (T (ev + 100).toNat), R_zero, Int.sub_self, Int.natAbs_zero] at h1
    rcases Nat.mul_eq_zero.1 h1 with h4 | h4
    · rw [hN]; exact h4
    · have := T_pos (min ev e + 100).toNat; omega
  clear h1 h2 h
  unfold nearB
  simp only
  rw [decide_eq_true_eq]
  generalize (plusN nv (!decide (m < 0)) (N * T (ev - min ev e).toNat) (m.natAbs * T (e - min ev e).toNat)).2 = O at *
  have he1 : -90 ≤ min ev e := by omega
  generalize min ev e = e1 at *
  by_cases hN : N = 0
  · rw [h0 hN, Nat.mul_zero, Nat.zero_mul]; exact Nat.zero_le _
  · have hX : nd (N * T (ev + 100).toNat) = nd N + (ev + 100).toNat := nd_mul_T _ hN
    rw [hX] at h3
    have hn : 0 < nd N := by
      have := (nd_eq_zero (n := N)); omega
    generalize hu : (nd N : Int) + ev - 15 = u at *
    have hu1 : -104 ≤ u := by omega
    generalize hk : nd N + (ev + 100).toNat - 15 = k at *
    have hku : u + 100 ≤ 0 ∧ k = 0 ∨ (k : Int) = u + 100 := by omega
    generalize hf : min u e1 = f at *
    have hm : T (e1 - f).toNat * T (f + 110).toNat = T (e1 + 100).toNat * T 10 := by
      rw [← T_add, ← T_add]; congr 1; omega
    have hm2 : T (u - f).toNat * T (f + 110).toNat = T (u + 110).toNat := by
      rw [← T_add]; congr 1; omega
    apply Nat.le_of_mul_le_mul_right (c := T (f + 110).toNat) _ (T_pos _)
    rw [Nat.mul_assoc, hm, Nat.mul_assoc _ (T (u - f).toNat), hm2, ← Nat.mul_assoc, Nat.mul_assoc 2]
    refine Nat.le_trans (Nat.mul_le_mul_right _ h3) ?_
    by_cases h40 : u < -40
    · rw [if_pos h40, if_pos (show k < 60 by omega)]
      have h5 : T (-40 - u).toNat * T (u + 110).toNat = T 60 * T 10 := by
        rw [← T_add, ← T_add]; congr 1; omega
      rw [Nat.add_mul, Nat.add_mul, h5, Nat.one_mul]
      refine Nat.add_le_add_right ?_ _
      by_cases hk0 : k = 0
      · rw [if_pos hk0, Nat.zero_mul]; exact Nat.zero_le _
      · rw [if_neg hk0, ← T_add]; exact T_mono (by omega)
    · rw [if_neg h40, if_neg (show ¬ k < 60 by omega), if_neg (show ¬ k = 0 by omega), Nat.add_zero, Nat.one_mul, ← T_add]
      exact T_mono (by omega)
end Go.Proofs.YtihfiegopnjeiaaDoor
