/- num.power, num.Neg, num.sign, num.Round, num.Floor. -/
import Derived.Test.YtihfiegopnjeiaaDoorMake
namespace Go.Proofs.YtihfiegopnjeiaaDoor
set_option linter.unusedSimpArgs false
set_option linter.unusedVariables false
open Go.RowKit NM

set_option maxHeartbeats 1000000 in
theorem power_any (n : Nat) (w : World) (hn : n ≤ 15) :
    Calls Tryd.prog 59 #[.int .i64 (n : Int)] w fun e w' => e = .returned (.int .u64 ((T n : Nat) : Int)) ∧ w = w' := by
  have hT : ∀ j, j ≤ n → T j ≤ 1000000000000000 := fun j hj => by
    have h1 : T j ≤ T 15 := T_mono (by omega)
    have h2 : T 15 = 1000000000000000 := by decide
    omega
  generalize hR : T n = R
  have HR := Lib.hid hR
  have HT := Lib.hid hT
  clear hR hT
  go_enter Tryd.func59, Tryd.ntmps59
  go_wp2
  go_loop [3, 5] (fun a i => ∃ (j V : Nat), j ≤ n ∧ i = .int .i64 (j : Int) ∧ a = .int .u64 (V : Int) ∧ V ≤ 1000000000000000 ∧ Hid (V = T j)) (fun _ i => n - (intOf i).toNat)
  case atStart => exact ⟨0, 1, Nat.zero_le _, rfl, rfl, by omega, by show _ = _; rfl⟩
  case round =>
    obtain ⟨j, V, hj, rfl, rfl, hV, HV⟩ := hrel
    by_cases hlt : j < n
    · have w1 : IntKind.u64.wrap ((V : Int) * 10) = (V : Int) * 10 := by rw [IntKind.wrap_u64]; omega
      go_wp2
      refine ⟨⟨j + 1, V * 10, by omega, by go_num, by go_num, ?_, ?_⟩, by simp [intOf]; omega⟩
      · have h1 := HT.out (j + 1) (by omega); rw [T_succ, ← HV.out] at h1; omega
      · show _ = _; rw [T_succ, ← HV.out]; omega
    · have hVR : V = R := by rw [HV.out, ← HR.out, show j = n by omega]
      subst hVR
      go_wp2
      go_ret
      exact ⟨rfl, rfl⟩

/-- Minus a number. -/
def negM (m e : Int) : Int := if Rt m e then -m else 0
def zeroE (m e : Int) : Int := if Rt m e then e else 0
set_option maxHeartbeats 1000000 in
theorem neg_any (m ex : Int) (w : World) (hm : I64 m) :
    Calls Tryd.prog 40 #[NV m ex] w fun e w' => e = .returned (NV (negM m ex) (zeroE m ex)) ∧ Ext w w' := by
  unfold negM zeroE
  by_cases h : Rt m ex
  · have hb := Rt_bd h
    have r1 := rtB_yes h
    rw [if_pos h, if_pos h]
    clear h
    have w1 : wrap64 (-m) = -m := IntWalk.wrap64_in _ (by omega)
    go_enter Tryd.func40, Tryd.ntmps40
    go_wp2_with (go_at_call 17; (with_reducible refine (right_rt _ _ _ (by assumption)).mono ?_); rintro e w' ⟨rfl, hbr⟩; obtain ⟨osr, dr, rfl⟩ := hbr.more)
    exact bodyPost_ret (v := NV (-m) ex) (by simp [results, Tryd.results40, go_sem]; done) rfl ⟨rfl, by repeat (first | exact Ext.refl _ | apply Ext.drew | apply Ext.alloc | apply Ext.more_)⟩
  · have r1 := rtB_no h
    rw [if_neg h, if_neg h]
    clear h
    go_enter Tryd.func40, Tryd.ntmps40
    go_wp2_with (go_at_call 17; (with_reducible refine (right_rt _ _ _ (by assumption)).mono ?_); rintro e w' ⟨rfl, hbr⟩; obtain ⟨osr, dr, rfl⟩ := hbr.more)
    exact bodyPost_ret (v := NV 0 0) (by simp [results, Tryd.results40, go_sem]; done) rfl ⟨rfl, by repeat (first | exact Ext.refl _ | apply Ext.drew | apply Ext.alloc | apply Ext.more_)⟩
theorem neg_rt {m e : Int} : Rt (negM m e) (zeroE m e) := by
  unfold negM zeroE
  split
  · rename_i h
    rcases h with ⟨h1, h2⟩ | ⟨h1, h2, h3, h4, h5⟩
    · exact Or.inl ⟨by omega, h2⟩
    · right
      rw [Int.natAbs_neg]
      exact ⟨by omega, h2, h3, h4, h5⟩
  · exact Or.inl ⟨rfl, rfl⟩

/-- N over 10 to the power k, a half up. -/
def cutUp (N k : Nat) : Nat := if T k ≤ 2 * (N % T k) then N / T k + 1 else N / T k
/-- P1.3's Round. -/
def roundS (m e p : Int) : Int × Int :=
  if ¬ Rt m e ∨ p < -40 then (0, 0)
  else if 40 ≤ p ∨ -p ≤ e then (m, e)
  else (fin (decide (m < 0)) (cutUp m.natAbs (-p - e).toNat) (-p)).getD (m, e)
theorem fin_right {neg : Bool} {N : Nat} {E : Int} (h0 : N ≠ 0) (hN : N ≤ T 15) (hE : -40 ≤ E) : Rt (sg neg (trim N E).1) (trim N E).2 ↔ nd N + E ≤ 40 := by
  have h2 := trim_nd E h0
  obtain ⟨k, a, b, c⟩ := trim_spec N E h0
  have hn : (trim N E).1 ≠ 0 := by omega
  have hT : T 15 = 1000000000000000 := by decide
  constructor
  · rintro (⟨hr, _⟩ | ⟨_, _, _, _, h5⟩)
    · exact absurd (sg_zero.1 hr) hn
    · rw [sg_natAbs] at h5; omega
  · intro h
    refine Or.inr ⟨fun hh => hn (sg_zero.1 hh), ?_, ?_, ?_, ?_⟩ <;> (try simp only [sg_natAbs])
    · rcases Nat.eq_zero_or_pos k with rfl | hk
      · have a' : N = (trim N E).1 := by simpa [T] using a
        rw [← a']
        rcases Nat.lt_or_ge N (T 15) with h5 | h5
        · exact h5
        · exfalso
          rw [← a', show N = 1000000000000000 by omega] at c; omega
      · have h3 : T 1 ≤ T k := T_mono hk
        have h4 := Nat.mul_le_mul_left (trim N E).1 h3
        rw [← a] at h4
        simp only [T, Nat.pow_one] at h4
        omega
    · exact c
    · omega
    · omega
theorem cutUp_far {N k : Nat} (h : nd N < k) : cutUp N k = 0 := by
  have h1 := lt_T_nd N
  have h2 : T (nd N + 1) ≤ T k := T_mono h
  rw [T_succ] at h2
  have h3 : N < T k := by omega
  unfold cutUp
  rw [Nat.mod_eq_of_lt h3, Nat.div_eq_of_lt h3, if_neg (by omega)]
theorem cutUp_le {N k : Nat} (hN : N < T 15) (hk : 0 < k) : cutUp N k ≤ T 15 := by
  have h1 : N / T k ≤ N := Nat.div_le_self _ _
  unfold cutUp
  split <;> omega
theorem fin_zero (neg : Bool) (E : Int) : fin neg 0 E = some (0, 0) := by unfold fin; rw [if_pos rfl]
set_option maxRecDepth 100000 in
set_option maxHeartbeats 2000000 in
theorem round_yes (m ex p : Int) (w : World) (h : Rt m ex) (hp1 : -40 ≤ p) (hp2 : p < 40) (hp3 : ex < -p) (hk : -p - ex ≤ 15) :
    Calls Tryd.prog 25 #[NV m ex, .int .i64 p] w fun e w' => e = .returned (NV ((fin (decide (m < 0)) (cutUp m.natAbs (-p - ex).toNat) (-p)).getD (m, ex)).1 ((fin (decide (m < 0)) (cutUp m.natAbs (-p - ex).toNat) (-p)).getD (m, ex)).2) ∧ Ext w w' := by
  obtain ⟨b1, b2, b3⟩ := Rt_bd h
  have hm : I64 m := by unfold I64; omega
  have r1 := rtB_yes h
  obtain ⟨k, hkk⟩ : ∃ k : Nat, -p - ex = (k : Int) := ⟨(-p - ex).toNat, by omega⟩
  have hk1 : 0 < k := by omega
  have hk15 : k ≤ 15 := by omega
  have hT15 : T 15 = 1000000000000000 := by decide
  have hCle := cutUp_le (N := m.natAbs) (by omega) hk1
  rw [hkk, Int.toNat_natCast]
  have hfr := fun h0 => fin_right (neg := decide (m < 0)) (N := cutUp m.natAbs k) (E := -p) h0 hCle (by omega)
  have hTk : 0 < T k ∧ T k ≤ 1000000000000000 := ⟨T_pos k, by have := T_mono hk15; omega⟩
  have hpw := fun W => power_any k W hk15
  have hcu : cutUp m.natAbs k = if T k ≤ 2 * (m.natAbs % T k) then m.natAbs / T k + 1 else m.natAbs / T k := rfl
  generalize cutUp m.natAbs k = C at *
  generalize T k = U at *
  generalize hN : m.natAbs = N at *
  have hsz := fun W => size_nat m W hm
  rw [hN] at hsz
  have HU := Lib.hid hTk
  have hU0 : ¬ U = 0 := by omega
  have q1 : (N : Int) % (U : Int) = ((N % U : Nat) : Int) := by omega
  have q2 : (N : Int) / (U : Int) = ((N / U : Nat) : Int) := by omega
  have hr := Nat.mod_lt N hTk.1
  have hq := Nat.div_le_self N U
  generalize N % U = r at *
  generalize N / U = q at *
  have w1 : IntKind.u64.wrap (r : Int) = r := by rw [IntKind.wrap_u64]; omega
  have w2 : IntKind.u64.wrap (q : Int) = q := by rw [IntKind.wrap_u64]; omega
  have w3 : IntKind.u64.wrap ((r : Int) * 2) = (r : Int) * 2 := by rw [IntKind.wrap_u64]; omega
  have w4 : IntKind.u64.wrap ((q : Int) + 1) = (q : Int) + 1 := by rw [IntKind.wrap_u64]; omega
  have w5 : wrap64 (-p) = -p := IntWalk.wrap64_in _ (by omega)
  have w6 : IntKind.i64.wrap (-p) = -p := i64w (by omega) (by omega)
  have w7 : IntKind.i64.wrap (-p - ex) = -p - ex := i64w (by omega) (by omega)
  have htr := fun W => trimmed_any (decide (m < 0)) C (-p) W (by omega) (by omega)
  have hkey : (fin (decide (m < 0)) C (-p)).getD (m, ex) = if rtB (sg (decide (m < 0)) (trim C (-p)).1) (trim C (-p)).2 = true then (sg (decide (m < 0)) (trim C (-p)).1, (trim C (-p)).2) else (m, ex) := by
    by_cases h0 : C = 0
    · rw [h0, fin_zero, trim_zero]
      have hs0 : sg (decide (m < 0)) 0 = 0 := by unfold sg; split <;> rfl
      rw [hs0, if_pos (rtB_yes (Or.inl ⟨rfl, rfl⟩))]; rfl
    · by_cases h40 : (nd C : Int) + -p ≤ 40
      · rw [if_pos (rtB_yes ((hfr h0).2 h40))]
        unfold fin; rw [if_neg h0, if_neg (by omega)]; rfl
      · rw [if_neg (by rw [rtB_no (fun hh => h40 ((hfr h0).1 hh))]; simp)]
        unfold fin; rw [if_neg h0, if_pos (by omega)]; rfl
  have htm : (trim C (-p)).1 ≤ C := by
    by_cases h0 : C = 0
    · rw [h0, trim_zero]; exact Nat.le_refl _
    · obtain ⟨k, ha, _, _⟩ := trim_spec C (-p) h0
      have h1 := Nat.mul_le_mul_left (trim C (-p)).1 (T_pos k)
      omega
  have hI : I64 (sg (decide (m < 0)) (trim C (-p)).1) := by unfold sg I64; split <;> omega
  clear hfr htm
  generalize sg (decide (m < 0)) (trim C (-p)).1 = m' at *
  generalize (trim C (-p)).2 = e' at *
  rw [hkey]
  clear hkey
  have HCU := Lib.hid hcu
  clear hcu hTk h hT15 hCle
  by_cases h5 : U ≤ r * 2
  · have hC : (C : Int) = (q : Int) + 1 := by have := HCU.out; rw [if_pos (by omega)] at this; omega
    have g1 : decide ((U : Int) ≤ (r : Int) * 2) = true := by simp; omega
    have g2 : decide (U ≤ r * 2) = true := by simp; omega
    rw [hC] at htr
    by_cases hR : rtB m' e' = true
    · rw [if_pos hR]
      go_enter Tryd.func25, Tryd.ntmps25
      go_wp2_with (go_at_call 17; (with_reducible refine (right_rt _ _ _ (by assumption)).mono ?_); rintro e w' ⟨rfl, hbr⟩; obtain ⟨osr, dr, rfl⟩ := hbr.more)
      refine wp_plan (S := Ext _) [(0, 0), (2, 0), (3, 0), (1, 1), (4, 1), (5, 0), (6, 0)] [] (by kernel_rfl) (by kernel_rfl) (by kernel_rfl) (fun _ _ d _ _ h => by cases d <;> exact h) (Ext.drew (Ext.refl _)) ?_
      (refine wpPl_read (v := ?_) rfl ?_ (fun w1 h1 => ?_) ?_; rotate_left 1; rfl; (obtain ⟨os1, d1, rfl⟩ := h1.more; go_simp; first | done | rfl))
      try simp only [Act.put, List.setIfInBounds_toArray, List.set_cons_zero, List.set_cons_succ]
      (refine wpPl_read (v := ?_) rfl ?_ (fun w1 h1 => ?_) ?_; rotate_left 1; rfl; (obtain ⟨os1, d1, rfl⟩ := h1.more; go_simp; first | done | rfl))
      try simp only [Act.put, List.setIfInBounds_toArray, List.set_cons_zero, List.set_cons_succ]
      (refine wpPl_read (v := ?_) rfl ?_ (fun w1 h1 => ?_) ?_; rotate_left 1; rfl; (obtain ⟨os1, d1, rfl⟩ := h1.more; go_simp; first | done | rfl))
      try simp only [Act.put, List.setIfInBounds_toArray, List.set_cons_zero, List.set_cons_succ]
      (refine wpPl_eff rfl ?_ (fun K hK => ?_); rfl; go_simp; (go_at_call 59; (with_reducible refine (hpw _).mono ?_); rintro e w' ⟨rfl, rfl⟩); refine hK _ _ ?_ ?_; (repeat (first | with_reducible exact Ext.refl _ | with_reducible exact ext_d _ _ _ _ | with_reducible exact ext_app _ _ _ _ _ | with_reducible exact ext_app2 _ _ _ _ _ _ | with_reducible exact ext_app3 _ _ _ _ _ _ _ | with_reducible exact ext_app4 _ _ _ _ _ _ _ _ | with_reducible exact ext_app5 _ _ _ _ _ _ _ _ _ | ((with_reducible refine ext_suffix ⟨_, ?_⟩); (try simp only [Array.append_assoc]); rfl) | with_reducible apply Ext.drew | with_reducible apply Ext.alloc | with_reducible apply Ext.more_ | apply Ext.drew | apply Ext.alloc | apply Ext.more_)))
      try simp only [Act.put, List.setIfInBounds_toArray, List.set_cons_zero, List.set_cons_succ]
      (refine wpPl_eff rfl ?_ (fun K hK => ?_); rfl; go_simp; (go_at_call 49; (with_reducible refine (hsz _).mono ?_); rintro e w' ⟨rfl, rfl⟩); refine hK _ _ ?_ ?_; (repeat (first | with_reducible exact Ext.refl _ | with_reducible exact ext_d _ _ _ _ | with_reducible exact ext_app _ _ _ _ _ | with_reducible exact ext_app2 _ _ _ _ _ _ | with_reducible exact ext_app3 _ _ _ _ _ _ _ | with_reducible exact ext_app4 _ _ _ _ _ _ _ _ | with_reducible exact ext_app5 _ _ _ _ _ _ _ _ _ | ((with_reducible refine ext_suffix ⟨_, ?_⟩); (try simp only [Array.append_assoc]); rfl) | with_reducible apply Ext.drew | with_reducible apply Ext.alloc | with_reducible apply Ext.more_ | apply Ext.drew | apply Ext.alloc | apply Ext.more_)))
      try simp only [Act.put, List.setIfInBounds_toArray, List.set_cons_zero, List.set_cons_succ]
      (refine wpPl_read (v := ?_) rfl ?_ (fun w1 h1 => ?_) ?_; rotate_left 1; rfl; (obtain ⟨os1, d1, rfl⟩ := h1.more; go_simp; first | done | rfl))
      try simp only [Act.put, List.setIfInBounds_toArray, List.set_cons_zero, List.set_cons_succ]
      (refine wpPl_read (v := ?_) rfl ?_ (fun w1 h1 => ?_) ?_; rotate_left 1; rfl; (obtain ⟨os1, d1, rfl⟩ := h1.more; go_simp; first | done | rfl))
      try simp only [Act.put, List.setIfInBounds_toArray, List.set_cons_zero, List.set_cons_succ]
      refine wpPl_nil ?_
      go_wp2_with (first | (go_at_call 17; (with_reducible refine (right_rt _ _ _ (by assumption)).mono ?_); rintro e w' ⟨rfl, hbr⟩; obtain ⟨osr, dr, rfl⟩ := hbr.more) | (go_at_call 60; (with_reducible refine (htr _).mono ?_); rintro e w' ⟨rfl, hbt⟩; obtain ⟨ost, dt, rfl⟩ := hbt.more))
      exact bodyPost_ret (v := NV m' e') (by simp [results, Tryd.results25, go_sem]; done) rfl ⟨rfl, by repeat (first | exact Ext.refl _ | apply Ext.drew | apply Ext.alloc | apply Ext.more_)⟩
    · have hR' : rtB m' e' = false := by simpa using hR
      rw [if_neg hR]
      clear hR
      go_enter Tryd.func25, Tryd.ntmps25
      go_wp2_with (go_at_call 17; (with_reducible refine (right_rt _ _ _ (by assumption)).mono ?_); rintro e w' ⟨rfl, hbr⟩; obtain ⟨osr, dr, rfl⟩ := hbr.more)
      refine wp_plan (S := Ext _) [(0, 0), (2, 0), (3, 0), (1, 1), (4, 1), (5, 0), (6, 0)] [] (by kernel_rfl) (by kernel_rfl) (by kernel_rfl) (fun _ _ d _ _ h => by cases d <;> exact h) (Ext.drew (Ext.refl _)) ?_
      (refine wpPl_read (v := ?_) rfl ?_ (fun w1 h1 => ?_) ?_; rotate_left 1; rfl; (obtain ⟨os1, d1, rfl⟩ := h1.more; go_simp; first | done | rfl))
      try simp only [Act.put, List.setIfInBounds_toArray, List.set_cons_zero, List.set_cons_succ]
      (refine wpPl_read (v := ?_) rfl ?_ (fun w1 h1 => ?_) ?_; rotate_left 1; rfl; (obtain ⟨os1, d1, rfl⟩ := h1.more; go_simp; first | done | rfl))
      try simp only [Act.put, List.setIfInBounds_toArray, List.set_cons_zero, List.set_cons_succ]
      (refine wpPl_read (v := ?_) rfl ?_ (fun w1 h1 => ?_) ?_; rotate_left 1; rfl; (obtain ⟨os1, d1, rfl⟩ := h1.more; go_simp; first | done | rfl))
      try simp only [Act.put, List.setIfInBounds_toArray, List.set_cons_zero, List.set_cons_succ]
      (refine wpPl_eff rfl ?_ (fun K hK => ?_); rfl; go_simp; (go_at_call 59; (with_reducible refine (hpw _).mono ?_); rintro e w' ⟨rfl, rfl⟩); refine hK _ _ ?_ ?_; (repeat (first | with_reducible exact Ext.refl _ | with_reducible exact ext_d _ _ _ _ | with_reducible exact ext_app _ _ _ _ _ | with_reducible exact ext_app2 _ _ _ _ _ _ | with_reducible exact ext_app3 _ _ _ _ _ _ _ | with_reducible exact ext_app4 _ _ _ _ _ _ _ _ | with_reducible exact ext_app5 _ _ _ _ _ _ _ _ _ | ((with_reducible refine ext_suffix ⟨_, ?_⟩); (try simp only [Array.append_assoc]); rfl) | with_reducible apply Ext.drew | with_reducible apply Ext.alloc | with_reducible apply Ext.more_ | apply Ext.drew | apply Ext.alloc | apply Ext.more_)))
      try simp only [Act.put, List.setIfInBounds_toArray, List.set_cons_zero, List.set_cons_succ]
      (refine wpPl_eff rfl ?_ (fun K hK => ?_); rfl; go_simp; (go_at_call 49; (with_reducible refine (hsz _).mono ?_); rintro e w' ⟨rfl, rfl⟩); refine hK _ _ ?_ ?_; (repeat (first | with_reducible exact Ext.refl _ | with_reducible exact ext_d _ _ _ _ | with_reducible exact ext_app _ _ _ _ _ | with_reducible exact ext_app2 _ _ _ _ _ _ | with_reducible exact ext_app3 _ _ _ _ _ _ _ | with_reducible exact ext_app4 _ _ _ _ _ _ _ _ | with_reducible exact ext_app5 _ _ _ _ _ _ _ _ _ | ((with_reducible refine ext_suffix ⟨_, ?_⟩); (try simp only [Array.append_assoc]); rfl) | with_reducible apply Ext.drew | with_reducible apply Ext.alloc | with_reducible apply Ext.more_ | apply Ext.drew | apply Ext.alloc | apply Ext.more_)))
      try simp only [Act.put, List.setIfInBounds_toArray, List.set_cons_zero, List.set_cons_succ]
      (refine wpPl_read (v := ?_) rfl ?_ (fun w1 h1 => ?_) ?_; rotate_left 1; rfl; (obtain ⟨os1, d1, rfl⟩ := h1.more; go_simp; first | done | rfl))
      try simp only [Act.put, List.setIfInBounds_toArray, List.set_cons_zero, List.set_cons_succ]
      (refine wpPl_read (v := ?_) rfl ?_ (fun w1 h1 => ?_) ?_; rotate_left 1; rfl; (obtain ⟨os1, d1, rfl⟩ := h1.more; go_simp; first | done | rfl))
      try simp only [Act.put, List.setIfInBounds_toArray, List.set_cons_zero, List.set_cons_succ]
      refine wpPl_nil ?_
      go_wp2_with (first | (go_at_call 17; (with_reducible refine (right_rt _ _ _ (by assumption)).mono ?_); rintro e w' ⟨rfl, hbr⟩; obtain ⟨osr, dr, rfl⟩ := hbr.more) | (go_at_call 60; (with_reducible refine (htr _).mono ?_); rintro e w' ⟨rfl, hbt⟩; obtain ⟨ost, dt, rfl⟩ := hbt.more))
      exact bodyPost_ret (v := NV m ex) (by simp [results, Tryd.results25, go_sem]; done) rfl ⟨rfl, by repeat (first | exact Ext.refl _ | apply Ext.drew | apply Ext.alloc | apply Ext.more_)⟩
  · have hC : (C : Int) = (q : Int) := by have := HCU.out; rw [if_neg (by omega)] at this; omega
    have g1 : decide ((U : Int) ≤ (r : Int) * 2) = false := by simp; omega
    have g2 : decide (U ≤ r * 2) = false := by simp; omega
    rw [hC] at htr
    by_cases hR : rtB m' e' = true
    · rw [if_pos hR]
      go_enter Tryd.func25, Tryd.ntmps25
      go_wp2_with (go_at_call 17; (with_reducible refine (right_rt _ _ _ (by assumption)).mono ?_); rintro e w' ⟨rfl, hbr⟩; obtain ⟨osr, dr, rfl⟩ := hbr.more)
      refine wp_plan (S := Ext _) [(0, 0), (2, 0), (3, 0), (1, 1), (4, 1), (5, 0), (6, 0)] [] (by kernel_rfl) (by kernel_rfl) (by kernel_rfl) (fun _ _ d _ _ h => by cases d <;> exact h) (Ext.drew (Ext.refl _)) ?_
      (refine wpPl_read (v := ?_) rfl ?_ (fun w1 h1 => ?_) ?_; rotate_left 1; rfl; (obtain ⟨os1, d1, rfl⟩ := h1.more; go_simp; first | done | rfl))
      try simp only [Act.put, List.setIfInBounds_toArray, List.set_cons_zero, List.set_cons_succ]
      (refine wpPl_read (v := ?_) rfl ?_ (fun w1 h1 => ?_) ?_; rotate_left 1; rfl; (obtain ⟨os1, d1, rfl⟩ := h1.more; go_simp; first | done | rfl))
      try simp only [Act.put, List.setIfInBounds_toArray, List.set_cons_zero, List.set_cons_succ]
      (refine wpPl_read (v := ?_) rfl ?_ (fun w1 h1 => ?_) ?_; rotate_left 1; rfl; (obtain ⟨os1, d1, rfl⟩ := h1.more; go_simp; first | done | rfl))
      try simp only [Act.put, List.setIfInBounds_toArray, List.set_cons_zero, List.set_cons_succ]
      (refine wpPl_eff rfl ?_ (fun K hK => ?_); rfl; go_simp; (go_at_call 59; (with_reducible refine (hpw _).mono ?_); rintro e w' ⟨rfl, rfl⟩); refine hK _ _ ?_ ?_; (repeat (first | with_reducible exact Ext.refl _ | with_reducible exact ext_d _ _ _ _ | with_reducible exact ext_app _ _ _ _ _ | with_reducible exact ext_app2 _ _ _ _ _ _ | with_reducible exact ext_app3 _ _ _ _ _ _ _ | with_reducible exact ext_app4 _ _ _ _ _ _ _ _ | with_reducible exact ext_app5 _ _ _ _ _ _ _ _ _ | ((with_reducible refine ext_suffix ⟨_, ?_⟩); (try simp only [Array.append_assoc]); rfl) | with_reducible apply Ext.drew | with_reducible apply Ext.alloc | with_reducible apply Ext.more_ | apply Ext.drew | apply Ext.alloc | apply Ext.more_)))
      try simp only [Act.put, List.setIfInBounds_toArray, List.set_cons_zero, List.set_cons_succ]
      (refine wpPl_eff rfl ?_ (fun K hK => ?_); rfl; go_simp; (go_at_call 49; (with_reducible refine (hsz _).mono ?_); rintro e w' ⟨rfl, rfl⟩); refine hK _ _ ?_ ?_; (repeat (first | with_reducible exact Ext.refl _ | with_reducible exact ext_d _ _ _ _ | with_reducible exact ext_app _ _ _ _ _ | with_reducible exact ext_app2 _ _ _ _ _ _ | with_reducible exact ext_app3 _ _ _ _ _ _ _ | with_reducible exact ext_app4 _ _ _ _ _ _ _ _ | with_reducible exact ext_app5 _ _ _ _ _ _ _ _ _ | ((with_reducible refine ext_suffix ⟨_, ?_⟩); (try simp only [Array.append_assoc]); rfl) | with_reducible apply Ext.drew | with_reducible apply Ext.alloc | with_reducible apply Ext.more_ | apply Ext.drew | apply Ext.alloc | apply Ext.more_)))
      try simp only [Act.put, List.setIfInBounds_toArray, List.set_cons_zero, List.set_cons_succ]
      (refine wpPl_read (v := ?_) rfl ?_ (fun w1 h1 => ?_) ?_; rotate_left 1; rfl; (obtain ⟨os1, d1, rfl⟩ := h1.more; go_simp; first | done | rfl))
      try simp only [Act.put, List.setIfInBounds_toArray, List.set_cons_zero, List.set_cons_succ]
      (refine wpPl_read (v := ?_) rfl ?_ (fun w1 h1 => ?_) ?_; rotate_left 1; rfl; (obtain ⟨os1, d1, rfl⟩ := h1.more; go_simp; first | done | rfl))
      try simp only [Act.put, List.setIfInBounds_toArray, List.set_cons_zero, List.set_cons_succ]
      refine wpPl_nil ?_
      go_wp2_with (first | (go_at_call 17; (with_reducible refine (right_rt _ _ _ (by assumption)).mono ?_); rintro e w' ⟨rfl, hbr⟩; obtain ⟨osr, dr, rfl⟩ := hbr.more) | (go_at_call 60; (with_reducible refine (htr _).mono ?_); rintro e w' ⟨rfl, hbt⟩; obtain ⟨ost, dt, rfl⟩ := hbt.more))
      exact bodyPost_ret (v := NV m' e') (by simp [results, Tryd.results25, go_sem]; done) rfl ⟨rfl, by repeat (first | exact Ext.refl _ | apply Ext.drew | apply Ext.alloc | apply Ext.more_)⟩
    · have hR' : rtB m' e' = false := by simpa using hR
      rw [if_neg hR]
      clear hR
      go_enter Tryd.func25, Tryd.ntmps25
      go_wp2_with (go_at_call 17; (with_reducible refine (right_rt _ _ _ (by assumption)).mono ?_); rintro e w' ⟨rfl, hbr⟩; obtain ⟨osr, dr, rfl⟩ := hbr.more)
      refine wp_plan (S := Ext _) [(0, 0), (2, 0), (3, 0), (1, 1), (4, 1), (5, 0), (6, 0)] [] (by kernel_rfl) (by kernel_rfl) (by kernel_rfl) (fun _ _ d _ _ h => by cases d <;> exact h) (Ext.drew (Ext.refl _)) ?_
      (refine wpPl_read (v := ?_) rfl ?_ (fun w1 h1 => ?_) ?_; rotate_left 1; rfl; (obtain ⟨os1, d1, rfl⟩ := h1.more; go_simp; first | done | rfl))
      try simp only [Act.put, List.setIfInBounds_toArray, List.set_cons_zero, List.set_cons_succ]
      (refine wpPl_read (v := ?_) rfl ?_ (fun w1 h1 => ?_) ?_; rotate_left 1; rfl; (obtain ⟨os1, d1, rfl⟩ := h1.more; go_simp; first | done | rfl))
      try simp only [Act.put, List.setIfInBounds_toArray, List.set_cons_zero, List.set_cons_succ]
      (refine wpPl_read (v := ?_) rfl ?_ (fun w1 h1 => ?_) ?_; rotate_left 1; rfl; (obtain ⟨os1, d1, rfl⟩ := h1.more; go_simp; first | done | rfl))
      try simp only [Act.put, List.setIfInBounds_toArray, List.set_cons_zero, List.set_cons_succ]
      (refine wpPl_eff rfl ?_ (fun K hK => ?_); rfl; go_simp; (go_at_call 59; (with_reducible refine (hpw _).mono ?_); rintro e w' ⟨rfl, rfl⟩); refine hK _ _ ?_ ?_; (repeat (first | with_reducible exact Ext.refl _ | with_reducible exact ext_d _ _ _ _ | with_reducible exact ext_app _ _ _ _ _ | with_reducible exact ext_app2 _ _ _ _ _ _ | with_reducible exact ext_app3 _ _ _ _ _ _ _ | with_reducible exact ext_app4 _ _ _ _ _ _ _ _ | with_reducible exact ext_app5 _ _ _ _ _ _ _ _ _ | ((with_reducible refine ext_suffix ⟨_, ?_⟩); (try simp only [Array.append_assoc]); rfl) | with_reducible apply Ext.drew | with_reducible apply Ext.alloc | with_reducible apply Ext.more_ | apply Ext.drew | apply Ext.alloc | apply Ext.more_)))
      try simp only [Act.put, List.setIfInBounds_toArray, List.set_cons_zero, List.set_cons_succ]
      (refine wpPl_eff rfl ?_ (fun K hK => ?_); rfl; go_simp; (go_at_call 49; (with_reducible refine (hsz _).mono ?_); rintro e w' ⟨rfl, rfl⟩); refine hK _ _ ?_ ?_; (repeat (first | with_reducible exact Ext.refl _ | with_reducible exact ext_d _ _ _ _ | with_reducible exact ext_app _ _ _ _ _ | with_reducible exact ext_app2 _ _ _ _ _ _ | with_reducible exact ext_app3 _ _ _ _ _ _ _ | with_reducible exact ext_app4 _ _ _ _ _ _ _ _ | with_reducible exact ext_app5 _ _ _ _ _ _ _ _ _ | ((with_reducible refine ext_suffix ⟨_, ?_⟩); (try simp only [Array.append_assoc]); rfl) | with_reducible apply Ext.drew | with_reducible apply Ext.alloc | with_reducible apply Ext.more_ | apply Ext.drew | apply Ext.alloc | apply Ext.more_)))
      try simp only [Act.put, List.setIfInBounds_toArray, List.set_cons_zero, List.set_cons_succ]
      (refine wpPl_read (v := ?_) rfl ?_ (fun w1 h1 => ?_) ?_; rotate_left 1; rfl; (obtain ⟨os1, d1, rfl⟩ := h1.more; go_simp; first | done | rfl))
      try simp only [Act.put, List.setIfInBounds_toArray, List.set_cons_zero, List.set_cons_succ]
      (refine wpPl_read (v := ?_) rfl ?_ (fun w1 h1 => ?_) ?_; rotate_left 1; rfl; (obtain ⟨os1, d1, rfl⟩ := h1.more; go_simp; first | done | rfl))
      try simp only [Act.put, List.setIfInBounds_toArray, List.set_cons_zero, List.set_cons_succ]
      refine wpPl_nil ?_
      go_wp2_with (first | (go_at_call 17; (with_reducible refine (right_rt _ _ _ (by assumption)).mono ?_); rintro e w' ⟨rfl, hbr⟩; obtain ⟨osr, dr, rfl⟩ := hbr.more) | (go_at_call 60; (with_reducible refine (htr _).mono ?_); rintro e w' ⟨rfl, hbt⟩; obtain ⟨ost, dt, rfl⟩ := hbt.more))
      exact bodyPost_ret (v := NV m ex) (by simp [results, Tryd.results25, go_sem]; done) rfl ⟨rfl, by repeat (first | exact Ext.refl _ | apply Ext.drew | apply Ext.alloc | apply Ext.more_)⟩
end Go.Proofs.YtihfiegopnjeiaaDoor
