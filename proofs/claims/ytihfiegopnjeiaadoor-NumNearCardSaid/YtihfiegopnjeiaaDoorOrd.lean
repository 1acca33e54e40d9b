/- Order and rounding: plain facts. -/
import Derived.Test.YtihfiegopnjeiaaDoorNSigns
namespace Go.Proofs.YtihfiegopnjeiaaDoor
set_option linter.unusedSimpArgs false
set_option linter.unusedVariables false
open NM

theorem T_cast_mul (a b : Nat) : ((T (a + b) : Nat) : Int) = (T a : Nat) * (T b : Nat) := by rw [T_add, Int.natCast_mul]
theorem RS_sg (x : Int) (t : Nat) : sg (decide (x < 0)) (R (x.natAbs * T t)) = RS (x * (T t : Nat)) := by
  have hp : (0 : Int) < ((T t : Nat) : Int) := by have := T_pos t; omega
  have hn : (x * ((T t : Nat) : Int)).natAbs = x.natAbs * T t := by rw [Int.natAbs_mul, Int.natAbs_natCast]
  unfold RS sg
  rw [hn]
  by_cases h : x < 0
  · have : x * ((T t : Nat) : Int) < 0 := Int.mul_neg_of_neg_of_pos h hp
    rw [if_pos this, if_pos (decide_eq_true h)]
  · have : ¬ x * ((T t : Nat) : Int) < 0 := by
      have := Int.mul_nonneg (show 0 ≤ x by omega) (show 0 ≤ ((T t : Nat) : Int) by omega)
      omega
    rw [if_neg this, if_neg (by simp [h])]
/-- What a value is rounded to, scaled. -/
theorem sc_rndI {x e : Int} {r : Int × Int} (he : -100 ≤ e) (h : rndI x e = some r) : sc r.1 r.2 = RS (x * (T (e + 100).toNat : Nat)) := by
  rw [sc_rnd he h, RS_sg]
theorem sum_sc {ma ea mb eb : Int} (h1 : -100 ≤ ea) (h2 : -100 ≤ eb) : sumI ma ea mb eb * (T (min ea eb + 100).toNat : Nat) = sc ma ea + sc mb eb := by
  unfold sumI sc
  rw [Int.add_mul, Int.mul_assoc, Int.mul_assoc, ← T_cast_mul, ← T_cast_mul]
  congr 3
  · congr 2; omega
  · congr 2; omega
theorem sc_neg (m e : Int) : sc (-m) e = - sc m e := by unfold sc; rw [Int.neg_mul]
theorem cmp_sc {ma ea mb eb : Int} (h1 : Rt ma ea) (h2 : Rt mb eb) : cmpS ma ea mb eb = (sc ma ea - sc mb eb).sign := by
  obtain ⟨_, b2, b3⟩ := Rt_bd h1
  obtain ⟨_, b5, b6⟩ := Rt_bd h2
  unfold cmpS
  rw [if_pos ⟨h1, h2⟩, ← sign_T _ (min ea eb + 100).toNat, sum_sc (by omega) (by omega), sc_neg, Int.sub_eq_add_neg]
theorem sign_le {x : Int} : x.sign ≤ 0 ↔ x ≤ 0 := by
  rcases Int.lt_trichotomy x 0 with h | h | h
  · rw [Int.sign_eq_neg_one_of_neg h]; omega
  · subst h; simp
  · rw [Int.sign_eq_one_of_pos h]; omega
theorem sign_lt {x : Int} : x.sign < 0 ↔ x < 0 := by
  rcases Int.lt_trichotomy x 0 with h | h | h
  · rw [Int.sign_eq_neg_one_of_neg h]; omega
  · subst h; simp
  · rw [Int.sign_eq_one_of_pos h]; omega
theorem cmp_le {ma ea mb eb : Int} (h1 : Rt ma ea) (h2 : Rt mb eb) : cmpS ma ea mb eb ≤ 0 ↔ sc ma ea ≤ sc mb eb := by
  rw [cmp_sc h1 h2, sign_le]; omega
theorem cmp_lt {ma ea mb eb : Int} (h1 : Rt ma ea) (h2 : Rt mb eb) : cmpS ma ea mb eb < 0 ↔ sc ma ea < sc mb eb := by
  rw [cmp_sc h1 h2, sign_lt]; omega
theorem add_sc {ma ea mb eb : Int} {r : Int × Int} (h1 : Rt ma ea) (h2 : Rt mb eb) (h : addS ma ea mb eb = some r) : Rt r.1 r.2 ∧ sc r.1 r.2 = RS (sc ma ea + sc mb eb) := by
  obtain ⟨_, b2, b3⟩ := Rt_bd h1
  obtain ⟨_, b5, b6⟩ := Rt_bd h2
  unfold addS at h
  rw [if_pos ⟨h1, h2⟩] at h
  refine ⟨rnd_right h, ?_⟩
  rw [sc_rndI (by omega) h, sum_sc (by omega) (by omega)]
theorem sub_sc {ma ea mb eb : Int} {r : Int × Int} (h1 : Rt ma ea) (h2 : Rt mb eb) (h : subS ma ea mb eb = some r) : Rt r.1 r.2 ∧ sc r.1 r.2 = RS (sc ma ea - sc mb eb) := by
  obtain ⟨_, b2, b3⟩ := Rt_bd h1
  obtain ⟨_, b5, b6⟩ := Rt_bd h2
  unfold subS at h
  rw [if_pos ⟨h1, h2⟩] at h
  refine ⟨rnd_right h, ?_⟩
  rw [sc_rndI (by omega) h, sum_sc (by omega) (by omega), sc_neg, Int.sub_eq_add_neg]
theorem mul_sc {ma ea mb eb : Int} {r : Int × Int} (h1 : Rt ma ea) (h2 : Rt mb eb) (h : mulS ma ea mb eb = some r) : Rt r.1 r.2 ∧ sc r.1 r.2 = RS (ma * mb * (T (ea + eb + 100).toNat : Nat)) := by
  obtain ⟨_, b2, b3⟩ := Rt_bd h1
  obtain ⟨_, b5, b6⟩ := Rt_bd h2
  unfold mulS at h
  rw [if_pos ⟨h1, h2⟩] at h
  exact ⟨rnd_right h, sc_rndI (by omega) h⟩
theorem mul_scale {ma ea mc ec : Int} (h1 : Rt ma ea) (h2 : Rt mc ec) : ma * mc * (T (ea + ec + 100).toNat : Nat) * (T 100 : Nat) = sc ma ea * sc mc ec := by
  obtain ⟨_, b2, b3⟩ := Rt_bd h1
  obtain ⟨_, b5, b6⟩ := Rt_bd h2
  unfold sc
  rw [Int.mul_assoc (ma * mc), ← T_cast_mul, show (ea + ec + 100).toNat + 100 = (ea + 100).toNat + (ec + 100).toNat by omega, T_cast_mul]
  generalize ((T (ea + 100).toNat : Nat) : Int) = x
  generalize ((T (ec + 100).toNat : Nat) : Int) = y
  rw [Int.mul_assoc, Int.mul_assoc, ← Int.mul_assoc mc x y, Int.mul_comm mc x, Int.mul_assoc x mc y]
theorem ord_add {ma ea mb eb mc ec : Int} (h1 : Rt ma ea) (h2 : Rt mb eb) (h3 : Rt mc ec) (hle : sc ma ea ≤ sc mb eb) (hp : (addS ma ea mc ec).isSome = true) (hq : (addS mb eb mc ec).isSome = true) :
    cmpS (rm (addS ma ea mc ec)) (re (addS ma ea mc ec)) (rm (addS mb eb mc ec)) (re (addS mb eb mc ec)) ≤ 0 := by
  obtain ⟨p, hp⟩ := Option.isSome_iff_exists.1 hp
  obtain ⟨q, hq⟩ := Option.isSome_iff_exists.1 hq
  obtain ⟨p1, p2⟩ := add_sc h1 h3 hp
  obtain ⟨q1, q2⟩ := add_sc h2 h3 hq
  rw [hp, hq]
  refine (cmp_le p1 q1).2 ?_
  rw [p2, q2]
  exact RS_mono (by omega)
theorem ord_sub {ma ea mb eb mc ec : Int} (h1 : Rt ma ea) (h2 : Rt mb eb) (h3 : Rt mc ec) (hle : sc ma ea ≤ sc mb eb) (hp : (subS ma ea mc ec).isSome = true) (hq : (subS mb eb mc ec).isSome = true) :
    cmpS (rm (subS ma ea mc ec)) (re (subS ma ea mc ec)) (rm (subS mb eb mc ec)) (re (subS mb eb mc ec)) ≤ 0 := by
  obtain ⟨p, hp⟩ := Option.isSome_iff_exists.1 hp
  obtain ⟨q, hq⟩ := Option.isSome_iff_exists.1 hq
  obtain ⟨p1, p2⟩ := sub_sc h1 h3 hp
  obtain ⟨q1, q2⟩ := sub_sc h2 h3 hq
  rw [hp, hq]
  refine (cmp_le p1 q1).2 ?_
  rw [p2, q2]
  exact RS_mono (by omega)
theorem ord_mul {ma ea mb eb mc ec : Int} (h1 : Rt ma ea) (h2 : Rt mb eb) (h3 : Rt mc ec) (hc : 0 ≤ mc) (hle : sc ma ea ≤ sc mb eb) (hp : (mulS ma ea mc ec).isSome = true) (hq : (mulS mb eb mc ec).isSome = true) :
    cmpS (rm (mulS ma ea mc ec)) (re (mulS ma ea mc ec)) (rm (mulS mb eb mc ec)) (re (mulS mb eb mc ec)) ≤ 0 := by
  obtain ⟨p, hp⟩ := Option.isSome_iff_exists.1 hp
  obtain ⟨q, hq⟩ := Option.isSome_iff_exists.1 hq
  obtain ⟨p1, p2⟩ := mul_sc h1 h3 hp
  obtain ⟨q1, q2⟩ := mul_sc h2 h3 hq
  rw [hp, hq]
  refine (cmp_le p1 q1).2 ?_
  rw [p2, q2]
  refine RS_mono ?_
  have hT : (0 : Int) < ((T 100 : Nat) : Int) := by have := T_pos 100; omega
  refine Int.le_of_mul_le_mul_right ?_ hT
  rw [mul_scale h1 h3, mul_scale h2 h3]
  refine Int.mul_le_mul_of_nonneg_right hle ?_
  unfold sc
  exact Int.mul_nonneg hc (by omega)
end Go.Proofs.YtihfiegopnjeiaaDoor
