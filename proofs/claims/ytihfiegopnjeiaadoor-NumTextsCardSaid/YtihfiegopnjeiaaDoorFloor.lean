/- num.Round as a whole, num.Floor, num.Int. -/
import Derived.Test.YtihfiegopnjeiaaDoorPower
namespace Go.Proofs.YtihfiegopnjeiaaDoor
set_option linter.unusedSimpArgs false
set_option linter.unusedVariables false
open Go.RowKit NM

set_option maxRecDepth 100000 in
set_option maxHeartbeats 2000000 in
theorem round_all (m ex p : Int) (w : World) (hm : I64 m) (hp : I64 p) :
    Calls Tryd.prog 25 #[NV m ex, .int .i64 p] w fun e w' => e = .returned (NV (roundS m ex p).1 (roundS m ex p).2) ∧ Ext w w' := by
  by_cases h : Rt m ex
  · have r1 := rtB_yes h
    obtain ⟨b1, b2, b3⟩ := Rt_bd h
    by_cases h1 : p < -40
    · have hs : roundS m ex p = (0, 0) := by unfold roundS; rw [if_pos (Or.inr h1)]
      rw [hs]
      clear h hs
      go_enter Tryd.func25, Tryd.ntmps25
      go_wp2_with (go_at_call 17; (with_reducible refine (right_rt _ _ _ (by assumption)).mono ?_); rintro e w' ⟨rfl, hbr⟩; obtain ⟨osr, dr, rfl⟩ := hbr.more)
      exact bodyPost_ret (v := NV 0 0) (by simp [results, Tryd.results25, go_sem]; done) rfl ⟨rfl, by repeat (first | exact Ext.refl _ | apply Ext.drew | apply Ext.alloc | apply Ext.more_)⟩
    · by_cases h2 : 40 ≤ p
      · have hs : roundS m ex p = (m, ex) := by unfold roundS; rw [if_neg (by rintro (h3 | h3); exact h3 h; omega), if_pos (Or.inl h2)]
        rw [hs]
        clear h hs
        go_enter Tryd.func25, Tryd.ntmps25
        go_wp2_with (go_at_call 17; (with_reducible refine (right_rt _ _ _ (by assumption)).mono ?_); rintro e w' ⟨rfl, hbr⟩; obtain ⟨osr, dr, rfl⟩ := hbr.more)
        exact bodyPost_ret (v := NV m ex) (by simp [results, Tryd.results25, go_sem]; done) rfl ⟨rfl, by repeat (first | exact Ext.refl _ | apply Ext.drew | apply Ext.alloc | apply Ext.more_)⟩
      · have w5 : wrap64 (-p) = -p := IntWalk.wrap64_in _ (by omega)
        have w6 : IntKind.i64.wrap (-p) = -p := i64w (by omega) (by omega)
        by_cases h3 : -p ≤ ex
        · have hs : roundS m ex p = (m, ex) := by unfold roundS; rw [if_neg (by rintro (h4 | h4); exact h4 h; omega), if_pos (Or.inr h3)]
          rw [hs]
          clear h hs
          go_enter Tryd.func25, Tryd.ntmps25
          go_wp2_with (go_at_call 17; (with_reducible refine (right_rt _ _ _ (by assumption)).mono ?_); rintro e w' ⟨rfl, hbr⟩; obtain ⟨osr, dr, rfl⟩ := hbr.more)
          exact bodyPost_ret (v := NV m ex) (by simp [results, Tryd.results25, go_sem]; done) rfl ⟨rfl, by repeat (first | exact Ext.refl _ | apply Ext.drew | apply Ext.alloc | apply Ext.more_)⟩
        · have hs : roundS m ex p = (fin (decide (m < 0)) (cutUp m.natAbs (-p - ex).toNat) (-p)).getD (m, ex) := by unfold roundS; rw [if_neg (by rintro (h4 | h4); exact h4 h; omega), if_neg (by omega)]
          rw [hs]
          by_cases h4 : -p - ex ≤ 15
          · exact round_yes m ex p w h (by omega) (by omega) (by omega) h4
          · have hnd : nd m.natAbs ≤ 15 := (nd_le_iff _ _).2 (by have : T 15 = 1000000000000000 := by decide
                                                                 omega)
            rw [cutUp_far (by omega), fin_zero]
            have w7 : IntKind.i64.wrap (-p - ex) = -p - ex := i64w (by omega) (by omega)
            clear h hs
            go_enter Tryd.func25, Tryd.ntmps25
            go_wp2_with (go_at_call 17; (with_reducible refine (right_rt _ _ _ (by assumption)).mono ?_); rintro e w' ⟨rfl, hbr⟩; obtain ⟨osr, dr, rfl⟩ := hbr.more)
            exact bodyPost_ret (v := NV 0 0) (by simp [results, Tryd.results25, go_sem]; done) rfl ⟨rfl, by repeat (first | exact Ext.refl _ | apply Ext.drew | apply Ext.alloc | apply Ext.more_)⟩
  · have r1 := rtB_no h
    have hs : roundS m ex p = (0, 0) := by unfold roundS; rw [if_pos (Or.inl h)]
    rw [hs]
    clear h hs
    go_enter Tryd.func25, Tryd.ntmps25
    go_wp2_with (go_at_call 17; (with_reducible refine (right_rt _ _ _ (by assumption)).mono ?_); rintro e w' ⟨rfl, hbr⟩; obtain ⟨osr, dr, rfl⟩ := hbr.more)
    exact bodyPost_ret (v := NV 0 0) (by simp [results, Tryd.results25, go_sem]; done) rfl ⟨rfl, by repeat (first | exact Ext.refl _ | apply Ext.drew | apply Ext.alloc | apply Ext.more_)⟩

/-- P1.3's Floor. -/
def floorN (m : Int) (k : Nat) : Nat := if m < 0 then m.natAbs / T k + 1 else m.natAbs / T k
def floorS (m e : Int) : Int × Int :=
  if ¬ Rt m e then (0, 0) else if 0 ≤ e then (m, e) else (sg (decide (m < 0)) (trim (floorN m (-e).toNat) 0).1, (trim (floorN m (-e).toNat) 0).2)
theorem mod_T_ne {N k : Nat} (h : N % 10 ≠ 0) (hk : 0 < k) : N % T k ≠ 0 := by
  obtain ⟨j, rfl⟩ : ∃ j, k = j + 1 := ⟨k - 1, by omega⟩
  intro h0
  have h1 : 10 ∣ T (j + 1) := ⟨T j, T_succ j⟩
  have h2 := Nat.dvd_trans h1 (Nat.dvd_of_mod_eq_zero h0)
  omega
set_option maxRecDepth 100000 in
set_option maxHeartbeats 2000000 in
theorem floor_yes (m ex : Int) (w : World) (h : Rt m ex) (he : ex < 0) :
    Calls Tryd.prog 27 #[NV m ex] w fun e w' => e = .returned (NV (sg (decide (m < 0)) (trim (floorN m (-ex).toNat) 0).1) (trim (floorN m (-ex).toNat) 0).2) ∧ Ext w w' := by
  obtain ⟨b1, b2, b3⟩ := Rt_bd h
  have hm : I64 m := by unfold I64; omega
  have r1 := rtB_yes h
  obtain ⟨k, hkk⟩ : ∃ k : Nat, ex = -(k : Int) := ⟨(-ex).toNat, by omega⟩
  subst hkk
  have hk1 : 0 < k := by omega
  have hm0 : m ≠ 0 ∧ m.natAbs % 10 ≠ 0 := by
    rcases h with ⟨_, h2⟩ | ⟨h1, _, h3, _⟩
    · omega
    · exact ⟨h1, h3⟩
  have hr0 := mod_T_ne hm0.2 hk1
  have hT15 : T 15 = 1000000000000000 := by decide
  rw [show (- -(k : Int)).toNat = k by omega]
  have hfl : floorN m k = if m < 0 then m.natAbs / T k + 1 else m.natAbs / T k := rfl
  have hdle := Nat.div_le_self m.natAbs (T k)
  have htr := fun W => trimmed_any (decide (m < 0)) (floorN m k) 0 W (by rw [hfl]; split <;> omega) (by omega)
  generalize sg (decide (m < 0)) (trim (floorN m k) 0).1 = m' at *
  generalize (trim (floorN m k) 0).2 = e' at *
  generalize floorN m k = F at *
  have hsz := fun W => size_nat m W hm
  have w5 : wrap64 (- -(k : Int)) = k := by rw [show - -(k : Int) = k by omega]; exact IntWalk.wrap64_in _ (by omega)
  have w6 : IntKind.i64.wrap (- -(k : Int)) = k := by rw [show - -(k : Int) = k by omega]; exact i64w (by omega) (by omega)
  by_cases hk15 : k ≤ 15
  · have hTk : 0 < T k ∧ T k ≤ 1000000000000000 := ⟨T_pos k, by have := T_mono hk15; omega⟩
    have hpw := fun W => power_any k W hk15
    generalize T k = U at *
    generalize hN : m.natAbs = N at *
    have hU0 : ¬ U = 0 := by omega
    have q1 : (N : Int) % (U : Int) = ((N % U : Nat) : Int) := by omega
    have q2 : (N : Int) / (U : Int) = ((N / U : Nat) : Int) := by omega
    have hrl := Nat.mod_lt N hTk.1
    generalize N % U = r at *
    generalize N / U = q at *
    have w1 : IntKind.u64.wrap (r : Int) = r := by rw [IntKind.wrap_u64]; omega
    have w2 : IntKind.u64.wrap (q : Int) = q := by rw [IntKind.wrap_u64]; omega
    have w4 : IntKind.u64.wrap ((q : Int) + 1) = (q : Int) + 1 := by rw [IntKind.wrap_u64]; omega
    have g1 : ((r : Int) != 0) = true := by simp; omega
    have g2 : (r != 0) = true := by simp; omega
    by_cases hneg : m < 0
    · rw [if_pos hneg] at hfl
      subst hfl
      have htr' := htr
      rw [show ((q + 1 : Nat) : Int) = (q : Int) + 1 by omega, decide_eq_true hneg] at htr'
      clear htr hN hr0 hm0 h
      have htr := htr'
      clear htr'
      go_enter Tryd.func27, Tryd.ntmps27
      go_wp2_with (first | (go_at_call 17; (with_reducible refine (right_rt _ _ _ (by assumption)).mono ?_); rintro e w' ⟨rfl, hbr⟩; obtain ⟨osr, dr, rfl⟩ := hbr.more) | (go_at_call 49; (with_reducible refine (hsz _).mono ?_); rintro e w' ⟨rfl, rfl⟩) | (go_at_call 59; (with_reducible refine (hpw _).mono ?_); rintro e w' ⟨rfl, rfl⟩) | (go_at_call 60; (with_reducible refine (htr _).mono ?_); rintro e w' ⟨rfl, hbt⟩; obtain ⟨ost, dt, rfl⟩ := hbt.more))
      refine wp_plan (S := Ext _) [(0, 0), (1, 0), (2, 0), (3, 0), (4, 0), (5, 0), (6, 0), (7, 0)] [] (by kernel_rfl) (by kernel_rfl) (by kernel_rfl) (fun _ _ d _ _ h => by cases d <;> exact h) (Ext.drew (Ext.refl _)) ?_
      (refine wpPl_read (v := ?_) rfl ?_ (fun w1 h1 => ?_) ?_; rotate_left 1; rfl; (obtain ⟨os1, d1, rfl⟩ := h1.more; go_simp; first | done | rfl))
      try simp only [Act.put, List.setIfInBounds_toArray, List.set_cons_zero, List.set_cons_succ]
      (refine wpPl_read (v := ?_) rfl ?_ (fun w1 h1 => ?_) ?_; rotate_left 1; rfl; (obtain ⟨os1, d1, rfl⟩ := h1.more; go_simp; first | done | rfl))
      try simp only [Act.put, List.setIfInBounds_toArray, List.set_cons_zero, List.set_cons_succ]
      (refine wpPl_read (v := ?_) rfl ?_ (fun w1 h1 => ?_) ?_; rotate_left 1; rfl; (obtain ⟨os1, d1, rfl⟩ := h1.more; go_simp; first | done | rfl))
      try simp only [Act.put, List.setIfInBounds_toArray, List.set_cons_zero, List.set_cons_succ]
      (refine wpPl_read (v := ?_) rfl ?_ (fun w1 h1 => ?_) ?_; rotate_left 1; rfl; (obtain ⟨os1, d1, rfl⟩ := h1.more; go_simp; first | done | rfl))
      try simp only [Act.put, List.setIfInBounds_toArray, List.set_cons_zero, List.set_cons_succ]
      (refine wpPl_read (v := ?_) rfl ?_ (fun w1 h1 => ?_) ?_; rotate_left 1; rfl; (obtain ⟨os1, d1, rfl⟩ := h1.more; go_simp; first | done | rfl))
      try simp only [Act.put, List.setIfInBounds_toArray, List.set_cons_zero, List.set_cons_succ]
      (refine wpPl_read (v := ?_) rfl ?_ (fun w1 h1 => ?_) ?_; rotate_left 1; rfl; (obtain ⟨os1, d1, rfl⟩ := h1.more; go_simp; first | done | rfl))
      try simp only [Act.put, List.setIfInBounds_toArray, List.set_cons_zero, List.set_cons_succ]
      (refine wpPl_read (v := ?_) rfl ?_ (fun w1 h1 => ?_) ?_; rotate_left 1; rfl; (obtain ⟨os1, d1, rfl⟩ := h1.more; go_simp; first | done | rfl))
      try simp only [Act.put, List.setIfInBounds_toArray, List.set_cons_zero, List.set_cons_succ]
      (refine wpPl_read (v := ?_) rfl ?_ (fun w1 h1 => ?_) ?_; rotate_left 1; rfl; (obtain ⟨os1, d1, rfl⟩ := h1.more; go_simp; first | done | rfl))
      try simp only [Act.put, List.setIfInBounds_toArray, List.set_cons_zero, List.set_cons_succ]
      refine wpPl_nil ?_
      go_wp2_with (first | (go_at_call 17; (with_reducible refine (right_rt _ _ _ (by assumption)).mono ?_); rintro e w' ⟨rfl, hbr⟩; obtain ⟨osr, dr, rfl⟩ := hbr.more) | (go_at_call 49; (with_reducible refine (hsz _).mono ?_); rintro e w' ⟨rfl, rfl⟩) | (go_at_call 59; (with_reducible refine (hpw _).mono ?_); rintro e w' ⟨rfl, rfl⟩) | (go_at_call 60; (with_reducible refine (htr _).mono ?_); rintro e w' ⟨rfl, hbt⟩; obtain ⟨ost, dt, rfl⟩ := hbt.more))
      exact bodyPost_ret (v := NV m' e') (by simp [results, Tryd.results27, go_sem]; done) rfl ⟨rfl, by repeat (first | exact Ext.refl _ | apply Ext.drew | apply Ext.alloc | apply Ext.more_)⟩
    · rw [if_neg hneg] at hfl
      subst hfl
      rw [decide_eq_false hneg] at htr
      clear hN hr0 hm0 h
      go_enter Tryd.func27, Tryd.ntmps27
      go_wp2_with (first | (go_at_call 17; (with_reducible refine (right_rt _ _ _ (by assumption)).mono ?_); rintro e w' ⟨rfl, hbr⟩; obtain ⟨osr, dr, rfl⟩ := hbr.more) | (go_at_call 49; (with_reducible refine (hsz _).mono ?_); rintro e w' ⟨rfl, rfl⟩) | (go_at_call 59; (with_reducible refine (hpw _).mono ?_); rintro e w' ⟨rfl, rfl⟩) | (go_at_call 60; (with_reducible refine (htr _).mono ?_); rintro e w' ⟨rfl, hbt⟩; obtain ⟨ost, dt, rfl⟩ := hbt.more))
      refine wp_plan (S := Ext _) [(0, 0), (1, 0), (2, 0), (3, 0), (4, 0), (5, 0), (6, 0), (7, 0)] [] (by kernel_rfl) (by kernel_rfl) (by kernel_rfl) (fun _ _ d _ _ h => by cases d <;> exact h) (Ext.drew (Ext.refl _)) ?_
      (refine wpPl_read (v := ?_) rfl ?_ (fun w1 h1 => ?_) ?_; rotate_left 1; rfl; (obtain ⟨os1, d1, rfl⟩ := h1.more; go_simp; first | done | rfl))
      try simp only [Act.put, List.setIfInBounds_toArray, List.set_cons_zero, List.set_cons_succ]
      (refine wpPl_read (v := ?_) rfl ?_ (fun w1 h1 => ?_) ?_; rotate_left 1; rfl; (obtain ⟨os1, d1, rfl⟩ := h1.more; go_simp; first | done | rfl))
      try simp only [Act.put, List.setIfInBounds_toArray, List.set_cons_zero, List.set_cons_succ]
      (refine wpPl_read (v := ?_) rfl ?_ (fun w1 h1 => ?_) ?_; rotate_left 1; rfl; (obtain ⟨os1, d1, rfl⟩ := h1.more; go_simp; first | done | rfl))
      try simp only [Act.put, List.setIfInBounds_toArray, List.set_cons_zero, List.set_cons_succ]
      (refine wpPl_read (v := ?_) rfl ?_ (fun w1 h1 => ?_) ?_; rotate_left 1; rfl; (obtain ⟨os1, d1, rfl⟩ := h1.more; go_simp; first | done | rfl))
      try simp only [Act.put, List.setIfInBounds_toArray, List.set_cons_zero, List.set_cons_succ]
      (refine wpPl_read (v := ?_) rfl ?_ (fun w1 h1 => ?_) ?_; rotate_left 1; rfl; (obtain ⟨os1, d1, rfl⟩ := h1.more; go_simp; first | done | rfl))
      try simp only [Act.put, List.setIfInBounds_toArray, List.set_cons_zero, List.set_cons_succ]
      (refine wpPl_read (v := ?_) rfl ?_ (fun w1 h1 => ?_) ?_; rotate_left 1; rfl; (obtain ⟨os1, d1, rfl⟩ := h1.more; go_simp; first | done | rfl))
      try simp only [Act.put, List.setIfInBounds_toArray, List.set_cons_zero, List.set_cons_succ]
      (refine wpPl_read (v := ?_) rfl ?_ (fun w1 h1 => ?_) ?_; rotate_left 1; rfl; (obtain ⟨os1, d1, rfl⟩ := h1.more; go_simp; first | done | rfl))
      try simp only [Act.put, List.setIfInBounds_toArray, List.set_cons_zero, List.set_cons_succ]
      (refine wpPl_read (v := ?_) rfl ?_ (fun w1 h1 => ?_) ?_; rotate_left 1; rfl; (obtain ⟨os1, d1, rfl⟩ := h1.more; go_simp; first | done | rfl))
      try simp only [Act.put, List.setIfInBounds_toArray, List.set_cons_zero, List.set_cons_succ]
      refine wpPl_nil ?_
      go_wp2_with (first | (go_at_call 17; (with_reducible refine (right_rt _ _ _ (by assumption)).mono ?_); rintro e w' ⟨rfl, hbr⟩; obtain ⟨osr, dr, rfl⟩ := hbr.more) | (go_at_call 49; (with_reducible refine (hsz _).mono ?_); rintro e w' ⟨rfl, rfl⟩) | (go_at_call 59; (with_reducible refine (hpw _).mono ?_); rintro e w' ⟨rfl, rfl⟩) | (go_at_call 60; (with_reducible refine (htr _).mono ?_); rintro e w' ⟨rfl, hbt⟩; obtain ⟨ost, dt, rfl⟩ := hbt.more))
      exact bodyPost_ret (v := NV m' e') (by simp [results, Tryd.results27, go_sem]; done) rfl ⟨rfl, by repeat (first | exact Ext.refl _ | apply Ext.drew | apply Ext.alloc | apply Ext.more_)⟩
  · have hT1 : T 15 ≤ T k := T_mono (by omega)
    have hq0 : m.natAbs / T k = 0 := Nat.div_eq_of_lt (by omega)
    rw [hq0] at hfl
    have hpw : True := trivial
    generalize hN : m.natAbs = N at *
    have g1 : ((N : Int) != 0) = true := by simp; omega
    have g2 : (N != 0) = true := by simp; omega
    by_cases hneg : m < 0
    · rw [if_pos hneg] at hfl
      subst hfl
      rw [decide_eq_true hneg, show ((0 + 1 : Nat) : Int) = 1 from rfl] at htr
      clear hN hr0 hm0 h hT1 hq0 hdle
      go_enter Tryd.func27, Tryd.ntmps27
      go_wp2_with (first | (go_at_call 17; (with_reducible refine (right_rt _ _ _ (by assumption)).mono ?_); rintro e w' ⟨rfl, hbr⟩; obtain ⟨osr, dr, rfl⟩ := hbr.more) | (go_at_call 49; (with_reducible refine (hsz _).mono ?_); rintro e w' ⟨rfl, rfl⟩) | (go_at_call 59; (with_reducible refine (hpw _).mono ?_); rintro e w' ⟨rfl, rfl⟩) | (go_at_call 60; (with_reducible refine (htr _).mono ?_); rintro e w' ⟨rfl, hbt⟩; obtain ⟨ost, dt, rfl⟩ := hbt.more))
      exact bodyPost_ret (v := NV m' e') (by simp [results, Tryd.results27, go_sem]; done) rfl ⟨rfl, by repeat (first | exact Ext.refl _ | apply Ext.drew | apply Ext.alloc | apply Ext.more_)⟩
    · rw [if_neg hneg] at hfl
      subst hfl
      rw [decide_eq_false hneg, show ((0 : Nat) : Int) = 0 from rfl] at htr
      clear hN hr0 hm0 h hT1 hq0 hdle
      go_enter Tryd.func27, Tryd.ntmps27
      go_wp2_with (first | (go_at_call 17; (with_reducible refine (right_rt _ _ _ (by assumption)).mono ?_); rintro e w' ⟨rfl, hbr⟩; obtain ⟨osr, dr, rfl⟩ := hbr.more) | (go_at_call 49; (with_reducible refine (hsz _).mono ?_); rintro e w' ⟨rfl, rfl⟩) | (go_at_call 59; (with_reducible refine (hpw _).mono ?_); rintro e w' ⟨rfl, rfl⟩) | (go_at_call 60; (with_reducible refine (htr _).mono ?_); rintro e w' ⟨rfl, hbt⟩; obtain ⟨ost, dt, rfl⟩ := hbt.more))
      exact bodyPost_ret (v := NV m' e') (by simp [results, Tryd.results27, go_sem]; done) rfl ⟨rfl, by repeat (first | exact Ext.refl _ | apply Ext.drew | apply Ext.alloc | apply Ext.more_)⟩
set_option maxRecDepth 100000 in
set_option maxHeartbeats 2000000 in
theorem floor_any (m ex : Int) (w : World) (hm : I64 m) :
    Calls Tryd.prog 27 #[NV m ex] w fun e w' => e = .returned (NV (floorS m ex).1 (floorS m ex).2) ∧ Ext w w' := by
  by_cases h : Rt m ex
  · have r1 := rtB_yes h
    by_cases h1 : 0 ≤ ex
    · have hs : floorS m ex = (m, ex) := by unfold floorS; rw [if_neg (fun hh => hh h), if_pos h1]
      rw [hs]
      clear h hs
      go_enter Tryd.func27, Tryd.ntmps27
      go_wp2_with (go_at_call 17; (with_reducible refine (right_rt _ _ _ (by assumption)).mono ?_); rintro e w' ⟨rfl, hbr⟩; obtain ⟨osr, dr, rfl⟩ := hbr.more)
      exact bodyPost_ret (v := NV m ex) (by simp [results, Tryd.results27, go_sem]; done) rfl ⟨rfl, by repeat (first | exact Ext.refl _ | apply Ext.drew | apply Ext.alloc | apply Ext.more_)⟩
    · have hs : floorS m ex = (sg (decide (m < 0)) (trim (floorN m (-ex).toNat) 0).1, (trim (floorN m (-ex).toNat) 0).2) := by unfold floorS; rw [if_neg (fun hh => hh h), if_neg h1]
      rw [hs]
      exact floor_yes m ex w h (by omega)
  · have r1 := rtB_no h
    have hs : floorS m ex = (0, 0) := by unfold floorS; rw [if_pos h]
    rw [hs]
    clear h hs
    go_enter Tryd.func27, Tryd.ntmps27
    go_wp2_with (go_at_call 17; (with_reducible refine (right_rt _ _ _ (by assumption)).mono ?_); rintro e w' ⟨rfl, hbr⟩; obtain ⟨osr, dr, rfl⟩ := hbr.more)
    exact bodyPost_ret (v := NV 0 0) (by simp [results, Tryd.results27, go_sem]; done) rfl ⟨rfl, by repeat (first | exact Ext.refl _ | apply Ext.drew | apply Ext.alloc | apply Ext.more_)⟩
end Go.Proofs.YtihfiegopnjeiaaDoor
