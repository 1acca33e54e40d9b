/- Rounding to a place: plain facts. -/
import Derived.Test.YtihfiegopnjeiaaDoorOrd
namespace Go.Proofs.YtihfiegopnjeiaaDoor
set_option linter.unusedSimpArgs false
set_option linter.unusedVariables false
open NM

theorem fin_rt {neg : Bool} {N : Nat} {E : Int} {r : Int × Int} (hN : N ≤ T 15) (hE : -40 ≤ E) (h : fin neg N E = some r) : Rt r.1 r.2 := by
  unfold fin at h
  by_cases h0 : N = 0
  · rw [if_pos h0] at h; cases h; exact Or.inl ⟨rfl, rfl⟩
  · rw [if_neg h0] at h
    by_cases h1 : 40 < nd N + E
    · rw [if_pos h1] at h; cases h
    · rw [if_neg h1] at h
      cases h
      exact (fin_right h0 hN hE).2 (by omega)
theorem round_cases {m e p : Int} (h : Rt m e) : (p < -40 ∧ roundS m e p = (0, 0)) ∨ (-40 ≤ p ∧ (40 ≤ p ∨ -p ≤ e) ∧ roundS m e p = (m, e)) ∨ (-40 ≤ p ∧ p < 40 ∧ e < -p ∧ roundS m e p = (fin (decide (m < 0)) (cutUp m.natAbs (-p - e).toNat) (-p)).getD (m, e)) := by
  unfold roundS
  by_cases h1 : p < -40
  · left; exact ⟨h1, by rw [if_pos (Or.inr h1)]⟩
  · right
    by_cases h2 : 40 ≤ p ∨ -p ≤ e
    · left; exact ⟨by omega, h2, by rw [if_neg (by rintro (h4 | h4); exact h4 h; omega), if_pos h2]⟩
    · right; exact ⟨by omega, by omega, by omega, by rw [if_neg (by rintro (h4 | h4); exact h4 h; omega), if_neg h2]⟩
theorem cutUp15 {m e : Int} {k : Nat} (h : Rt m e) (hk : 0 < k) : cutUp m.natAbs k ≤ T 15 := by
  obtain ⟨b1, _, _⟩ := Rt_bd h
  exact cutUp_le (by have : T 15 = 1000000000000000 := by decide
                     omega) hk
theorem round_rt {m e p : Int} (h : Rt m e) : Rt (roundS m e p).1 (roundS m e p).2 := by
  rcases round_cases (p := p) h with ⟨_, hr⟩ | ⟨_, _, hr⟩ | ⟨h1, h2, h3, hr⟩
  · rw [hr]; exact Or.inl ⟨rfl, rfl⟩
  · rw [hr]; exact h
  · rw [hr]
    cases hf : fin (decide (m < 0)) (cutUp m.natAbs (-p - e).toNat) (-p) with
    | none => exact h
    | some r => exact fin_rt (cutUp15 h (by omega)) (by omega) hf
theorem rt_zero : Rt 0 0 := Or.inl ⟨rfl, rfl⟩
theorem round_zero (p : Int) : roundS 0 0 p = (0, 0) := by
  rcases round_cases (p := p) rt_zero with ⟨_, hr⟩ | ⟨_, _, hr⟩ | ⟨h1, h2, h3, hr⟩
  · exact hr
  · exact hr
  · rw [hr]
    have : cutUp (0 : Int).natAbs (-p - 0).toNat = 0 := by
      unfold cutUp
      rw [show (0 : Int).natAbs = 0 from rfl, Nat.zero_mod, Nat.zero_div, if_neg (by have := T_pos (-p - 0).toNat; omega)]
    rw [this, fin_zero]; rfl
theorem round_idem {m e p : Int} (h : Rt m e) : roundS (roundS m e p).1 (roundS m e p).2 p = roundS m e p := by
  rcases round_cases (p := p) h with ⟨_, hr⟩ | ⟨_, _, hr⟩ | ⟨h1, h2, h3, hr⟩
  · rw [hr]; exact round_zero p
  · rw [hr]; exact hr
  · cases hf : fin (decide (m < 0)) (cutUp m.natAbs (-p - e).toNat) (-p) with
    | none =>
      rw [hf] at hr
      have hr' : roundS m e p = (m, e) := hr
      rw [hr']; exact hr'
    | some r =>
      rw [hf] at hr
      have hr' : roundS m e p = r := hr
      have hrt : Rt r.1 r.2 := by have := round_rt (p := p) h; rw [hr'] at this; exact this
      rw [hr']
      unfold fin at hf
      by_cases h0 : cutUp m.natAbs (-p - e).toNat = 0
      · rw [if_pos h0] at hf
        cases hf; exact round_zero p
      · rw [if_neg h0] at hf
        by_cases h40 : 40 < nd (cutUp m.natAbs (-p - e).toNat) + -p
        · rw [if_pos h40] at hf; cases hf
        · rw [if_neg h40] at hf
          obtain ⟨k, _, hb, _⟩ := trim_spec _ (-p) h0
          cases hf
          rcases round_cases (p := p) hrt with ⟨_, _⟩ | ⟨_, _, hr2⟩ | ⟨_, _, h5, _⟩
          · omega
          · exact hr2
          · simp only at h5; omega
/-- 10 to the power 140: what no right number reaches, scaled. -/
def MX : Nat := T 140
theorem MX_pos : 0 < MX := T_pos 140
/-- A value without its sign, scaled, to the nearest of so many, a half up; but beyond the greatest one itself. -/
def GU (U x : Nat) : Nat := (if U ≤ 2 * (x % U) then x / U + 1 else x / U) * U
def HU (U x : Nat) : Nat := if GU U x < MX then GU U x else x
theorem GU_near {U x : Nat} (hU : 0 < U) : 2 * x ≤ 2 * GU U x + U ∧ 2 * GU U x ≤ 2 * x + U := by
  have h := Nat.div_add_mod x U
  have hp := Nat.mod_lt x hU
  unfold GU
  generalize x % U = r at *
  generalize x / U = q at *
  rw [Nat.mul_comm] at h
  split
  · rw [Nat.add_mul, Nat.one_mul]; omega
  · omega
theorem GU_mono {U a b : Nat} (hU : 0 < U) (h : a ≤ b) : GU U a ≤ GU U b := by
  have hq : a / U ≤ b / U := Nat.div_le_div_right h
  unfold GU
  refine Nat.mul_le_mul_right _ ?_
  rcases Nat.lt_or_ge (a / U) (b / U) with h1 | h1
  · split <;> split <;> omega
  · have he : a / U = b / U := by omega
    have ha := Nat.div_add_mod a U
    have hb := Nat.div_add_mod b U
    rw [he] at ha ⊢
    generalize a % U = r at *
    generalize b % U = s at *
    generalize b / U = q at *
    generalize U * q = z at *
    split
    · rw [if_pos (by omega)]; exact Nat.le_refl _
    · split <;> omega
theorem GU_mul {U a : Nat} (hU : 0 < U) (hd : U ∣ a) : GU U a = a := by
  unfold GU
  rw [Nat.mod_eq_zero_of_dvd hd, if_neg (by omega), Nat.div_mul_cancel hd]
theorem HU_mono {U a b : Nat} (hU : 0 < U) (hd : U ∣ MX) (h : a ≤ b) (hb : b < MX) : HU U a ≤ HU U b := by
  have hm := GU_mono hU h
  have hn := GU_near (x := b) hU
  unfold HU
  by_cases h1 : GU U a < MX
  · rw [if_pos h1]
    by_cases h2 : GU U b < MX
    · rw [if_pos h2]; exact hm
    · rw [if_neg h2]
      obtain ⟨c, hc⟩ := hd
      have hg : ∃ g, GU U a = U * g := ⟨_, by unfold GU; rw [Nat.mul_comm]⟩
      obtain ⟨g, hg⟩ := hg
      rw [hg, hc] at h1
      have h3 : g < c := Nat.lt_of_mul_lt_mul_left h1
      have h4 : U * (g + 1) ≤ U * c := Nat.mul_le_mul_left _ h3
      rw [Nat.mul_add, Nat.mul_one] at h4
      rw [hg]
      rw [hc] at h2
      omega
  · rw [if_neg h1, if_neg (by omega)]; exact h
theorem GU_scale (N k t : Nat) : GU (T (k + t)) (N * T t) = cutUp N k * T (k + t) := by
  unfold GU cutUp
  rw [T_add, Nat.mul_mod_mul_right, Nat.mul_div_mul_right _ _ (T_pos t)]
  congr 1
  refine ite_iff _ _ ?_
  rw [← Nat.mul_assoc]
  exact ⟨fun h => Nat.le_of_mul_le_mul_right h (T_pos t), fun h => Nat.mul_le_mul_right _ h⟩
/-- The same with a sign. -/
def HI (U : Nat) (x : Int) : Int := if x < 0 then -(HU U x.natAbs : Int) else HU U x.natAbs
theorem HI_mono {U : Nat} {a b : Int} (hU : 0 < U) (hd : U ∣ MX) (h : a ≤ b) (ha : a.natAbs < MX) (hb : b.natAbs < MX) : HI U a ≤ HI U b := by
  unfold HI
  split <;> split
  · have := HU_mono (a := b.natAbs) (b := a.natAbs) hU hd (by omega) ha; omega
  · omega
  · omega
  · have := HU_mono (a := a.natAbs) (b := b.natAbs) hU hd (by omega) hb; omega
theorem sc_abs (m e : Int) : (sc m e).natAbs = m.natAbs * T (e + 100).toNat := by unfold sc; rw [Int.natAbs_mul, Int.natAbs_natCast]
theorem sc_lt {m e : Int} (h : Rt m e) : (sc m e).natAbs < MX := by
  rw [sc_abs]
  obtain ⟨b1, b2, b3⟩ := Rt_bd h
  rcases h with ⟨h1, h2⟩ | ⟨h1, h2, h3, h4, h5⟩
  · rw [h1, show (0 : Int).natAbs = 0 from rfl, Nat.zero_mul]; exact MX_pos
  · have hn := nd_mul_T (e + 100).toNat (show m.natAbs ≠ 0 by omega)
    exact (nd_le_iff _ 140).1 (by rw [hn]; omega)
theorem sc_sign {m e : Int} : sc m e < 0 ↔ m < 0 := by
  unfold sc
  have hp : (0 : Int) < ((T (e + 100).toNat : Nat) : Int) := by have := T_pos (e + 100).toNat; omega
  constructor
  · intro h
    rcases Int.lt_or_le m 0 with h1 | h1
    · exact h1
    · have := Int.mul_nonneg h1 (Int.le_of_lt hp); omega
  · intro h; exact Int.mul_neg_of_neg_of_pos h hp
theorem sc_sg (neg : Bool) (N : Nat) (e : Int) : sc (sg neg N) e = sg neg (N * T (e + 100).toNat) := by unfold sc; rw [sg_mul_nat]
theorem sc_nought : sc 0 0 = 0 := Int.zero_mul _
theorem sg_nought (b : Bool) : sg b 0 = 0 := by cases b <;> rfl
theorem round_sc {m e p : Int} (h : Rt m e) (h1 : -40 ≤ p) (h2 : p < 40) : sc (roundS m e p).1 (roundS m e p).2 = HI (T (100 - p).toNat) (sc m e) := by
  obtain ⟨b1, b2, b3⟩ := Rt_bd h
  have hU := T_pos (100 - p).toNat
  have hlt := sc_lt h
  have hsc : sc m e = sg (decide (m < 0)) (sc m e).natAbs := by
    have := sg_nat (sc m e)
    rw [show decide (sc m e < 0) = decide (m < 0) by rw [Bool.eq_iff_iff, decide_eq_true_eq, decide_eq_true_eq]; exact sc_sign] at this
    exact this.symm
  have hHI : HI (T (100 - p).toNat) (sc m e) = sg (decide (m < 0)) (HU (T (100 - p).toNat) (sc m e).natAbs) := by
    unfold HI sg
    by_cases hm : m < 0
    · rw [if_pos (sc_sign.2 hm), if_pos (decide_eq_true hm)]
    · rw [if_neg (fun hh => hm (sc_sign.1 hh)), if_neg (by simp [hm])]
  rw [hHI]
  rcases round_cases (p := p) h with ⟨_, _⟩ | ⟨_, h3, hr⟩ | ⟨_, _, h3, hr⟩
  · omega
  · rw [hr]
    have hd : T (100 - p).toNat ∣ (sc m e).natAbs := by
      rw [sc_abs]
      exact Nat.dvd_trans ⟨T ((e + 100).toNat - (100 - p).toNat), by rw [← T_add]; congr 1; omega⟩ (Nat.dvd_mul_left _ _)
    have : HU (T (100 - p).toNat) (sc m e).natAbs = (sc m e).natAbs := by
      unfold HU; rw [GU_mul hU hd, if_pos hlt]
    rw [this]
    exact hsc
  · rw [hr]
    have hG : GU (T (100 - p).toNat) (sc m e).natAbs = cutUp m.natAbs (-p - e).toNat * T (100 - p).toNat := by
      have := GU_scale m.natAbs (-p - e).toNat (e + 100).toNat
      rw [show (-p - e).toNat + (e + 100).toNat = (100 - p).toNat by omega] at this
      rw [sc_abs]; exact this
    unfold HU
    rw [hG]
    unfold fin
    by_cases h0 : cutUp m.natAbs (-p - e).toNat = 0
    · rw [if_pos h0, h0, Nat.zero_mul, if_pos MX_pos]
      show sc 0 0 = sg (decide (m < 0)) 0
      rw [sc_nought, sg_nought]
    · rw [if_neg h0]
      have hnd := nd_mul_T (100 - p).toNat h0
      have hlt2 : 140 < nd (cutUp m.natAbs (-p - e).toNat * T (100 - p).toNat) ↔ MX ≤ cutUp m.natAbs (-p - e).toNat * T (100 - p).toNat := lt_nd_iff (cutUp m.natAbs (-p - e).toNat * T (100 - p).toNat) 140
      rw [hnd] at hlt2
      by_cases h40 : 40 < nd (cutUp m.natAbs (-p - e).toNat) + -p
      · rw [if_pos h40, if_neg (by have := hlt2.1 (by omega); omega)]
        exact hsc
      · rw [if_neg h40, if_pos (by
          rcases Nat.lt_or_ge (cutUp m.natAbs (-p - e).toNat * T (100 - p).toNat) (MX) with hh | hh
          · exact hh
          · have := hlt2.2 hh; omega)]
        show sc (sg (decide (m < 0)) (trim (cutUp m.natAbs (-p - e).toNat) (-p)).1) (trim (cutUp m.natAbs (-p - e).toNat) (-p)).2 = _
        rw [sc_sg, sc_trim h0 (by omega), show (-p + 100).toNat = (100 - p).toNat by omega]
theorem round_mono {ma ea mb eb p : Int} (h1 : Rt ma ea) (h2 : Rt mb eb) (h : sc ma ea ≤ sc mb eb) : sc (roundS ma ea p).1 (roundS ma ea p).2 ≤ sc (roundS mb eb p).1 (roundS mb eb p).2 := by
  by_cases hp : -40 ≤ p ∧ p < 40
  · rw [round_sc h1 hp.1 hp.2, round_sc h2 hp.1 hp.2]
    exact HI_mono (T_pos _) ⟨T (140 - (100 - p).toNat), by unfold MX; rw [← T_add]; congr 1; omega⟩ h (sc_lt h1) (sc_lt h2)
  · rcases round_cases (p := p) h1 with ⟨ha, hr⟩ | ⟨ha, _, hr⟩ | ⟨_, _, _, _⟩
    · rcases round_cases (p := p) h2 with ⟨_, hr2⟩ | ⟨_, _, _⟩ | ⟨_, _, _, _⟩
      · rw [hr, hr2]; exact Int.le_refl _
      · omega
      · omega
    · rcases round_cases (p := p) h2 with ⟨_, _⟩ | ⟨_, _, hr2⟩ | ⟨_, _, _, _⟩
      · omega
      · rw [hr, hr2]; exact h
      · omega
    · omega
end Go.Proofs.YtihfiegopnjeiaaDoor
