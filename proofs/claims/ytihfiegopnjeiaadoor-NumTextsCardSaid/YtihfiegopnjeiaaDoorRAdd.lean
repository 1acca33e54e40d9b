/- counterpaneref01.Add, Neg, Sub, Cmp. -/
import Derived.Test.YtihfiegopnjeiaaDoorRRound
namespace Go.Proofs.YtihfiegopnjeiaaDoor
set_option linter.unusedSimpArgs false
set_option linter.unusedVariables false
open Go.RowKit NM

set_option maxRecDepth 100000 in
set_option maxHeartbeats 2000000 in
theorem radd_no (ma ea mb eb : Int) (w : World) (hma : I64 ma) (hmb : I64 mb) (h : ¬ (Rt ma ea ∧ Rt mb eb)) :
    Calls Tryd.prog 37 #[NV ma ea, NV mb eb] w fun e w' => e = .returned (rnV none) ∧ Ext w w' := by
  by_cases h1 : Rt ma ea
  · have r1 := rtB_yes h1
    have r2 := rtB_no (fun h2 => h ⟨h1, h2⟩)
    clear h h1
    go_enter Tryd.func37, Tryd.ntmps37
    go_wp2_with (go_at_call 18; (with_reducible refine (rright_rt _ _ _ (by assumption)).mono ?_); rintro e w' ⟨rfl, hbr⟩; obtain ⟨osr, dr, rfl⟩ := hbr.more)
    exact bodyPost_ret (v := .tuple #[NV 0 0, .bool false]) (by simp [results, Tryd.results37, go_sem]; done) rfl ⟨rfl, by repeat (first | with_reducible exact Ext.refl _ | with_reducible apply Ext.drew | with_reducible apply Ext.alloc | with_reducible apply Ext.more_)⟩
  · have r1 := rtB_no h1
    clear h h1
    go_enter Tryd.func37, Tryd.ntmps37
    go_wp2_with (go_at_call 18; (with_reducible refine (rright_rt _ _ _ (by assumption)).mono ?_); rintro e w' ⟨rfl, hbr⟩; obtain ⟨osr, dr, rfl⟩ := hbr.more)
    exact bodyPost_ret (v := .tuple #[NV 0 0, .bool false]) (by simp [results, Tryd.results37, go_sem]; done) rfl ⟨rfl, by repeat (first | with_reducible exact Ext.refl _ | with_reducible apply Ext.drew | with_reducible apply Ext.alloc | with_reducible apply Ext.more_)⟩
/-- Plus of the exact values of two right numbers. -/
theorem plus_of (ma ea mb eb : Int) (h1 : Rt ma ea) (h2 : Rt mb eb) (A B : Option Addr) (ca cb : Nat) (w : World) (ha : Rd 0 w A (i6 (dig ma.natAbs))) (hb : Rd 0 w B (i6 (dig mb.natAbs))) :
    Calls Tryd.prog 44 #[DecV (decide (ma < 0)) A (nd ma.natAbs) ca ea, DecV (decide (mb < 0)) B (nd mb.natAbs) cb eb] w fun r w' => DecOut w (plusN (decide (ma < 0)) (decide (mb < 0)) (ma.natAbs * T (ea - min ea eb).toNat) (mb.natAbs * T (eb - min ea eb).toNat)).1 (max (nd ma.natAbs + (ea - min ea eb).toNat) (nd mb.natAbs + (eb - min ea eb).toNat) + 1) (plusN (decide (ma < 0)) (decide (mb < 0)) (ma.natAbs * T (ea - min ea eb).toNat) (mb.natAbs * T (eb - min ea eb).toNat)).2 (min ea eb) r w' ∧ Ext w w' := by
  obtain ⟨b1, b2, b3⟩ := Rt_bd h1
  obtain ⟨b4, b5, b6⟩ := Rt_bd h2
  have hT15 : T 15 = 1000000000000000 := by decide
  have n1 : nd ma.natAbs ≤ 15 := (nd_le_iff _ _).2 (by omega)
  have n2 : nd mb.natAbs ≤ 15 := (nd_le_iff _ _).2 (by omega)
  have := plus_any (decide (ma < 0)) (decide (mb < 0)) A B ca cb (dig ma.natAbs) (dig mb.natAbs) ea eb (min ea eb) (ea - min ea eb).toNat (eb - min ea eb).toNat _ w ha hb (by rw [dig_length]; omega) (by rw [dig_length]; omega) (by omega) (by omega) (by omega) (by omega) (by omega) (dig_all _) (dig_all _) rfl
  rw [val_dig, val_dig, dig_length, dig_length] at this
  exact this
set_option maxRecDepth 100000 in
set_option maxHeartbeats 2000000 in
theorem radd_yes (ma ea mb eb : Int) (w : World) (h1 : Rt ma ea) (h2 : Rt mb eb) :
    Calls Tryd.prog 37 #[NV ma ea, NV mb eb] w fun e w' => e = .returned (rnV (rndI (sumI ma ea mb eb) (min ea eb))) ∧ Ext w w' := by
  obtain ⟨b1, b2, b3⟩ := Rt_bd h1
  obtain ⟨b4, b5, b6⟩ := Rt_bd h2
  have hma : I64 ma := by unfold I64; omega
  have hmb : I64 mb := by unfold I64; omega
  have r1 := rtB_yes h1
  have r2 := rtB_yes h2
  have hT15 : T 15 = 1000000000000000 := by decide
  have n1 : nd ma.natAbs ≤ 15 := (nd_le_iff _ _).2 (by omega)
  have n2 : nd mb.natAbs ≤ 15 := (nd_le_iff _ _).2 (by omega)
  have hof1 := fun W => rof_any ma ea W hma
  have hof2 := fun W => rof_any mb eb W hmb
  have hpl := fun A B ca cb W h3 h4 => plus_of ma ea mb eb h1 h2 A B ca cb W h3 h4
  have hL : max (nd ma.natAbs + (ea - min ea eb).toNat) (nd mb.natAbs + (eb - min ea eb).toNat) + 1 ≤ 1000 := by omega
  have hE : -1000000 ≤ min ea eb ∧ min ea eb ≤ 1000000 := by omega
  rw [← rnd_plus]
  generalize max (nd ma.natAbs + (ea - min ea eb).toNat) (nd mb.natAbs + (eb - min ea eb).toNat) + 1 = L at *
  generalize plusN (decide (ma < 0)) (decide (mb < 0)) (ma.natAbs * T (ea - min ea eb).toNat) (mb.natAbs * T (eb - min ea eb).toNat) = PN at *
  generalize min ea eb = E at *
  have hnr := fun (A : Option Addr) (cap : Nat) (l : List Nat) (W : World) (a1 : l.length = L) (a2 : Rd 0 W A (i6 l)) (a3 : L ≤ cap) (a4 : AllD l) (a5 : val l = PN.2) => near_any 0 PN.1 A L cap l PN.2 E false W a1 a2 a3 hL a4 a5 hE (Nat.zero_le _)
  generalize rnd PN.1 PN.2 false E = R at *
  clear h1 h2 n1 n2 hT15
  generalize ma.natAbs = Na at *
  generalize mb.natAbs = Nb at *
  go_enter Tryd.func37, Tryd.ntmps37
  go_wp2_with (go_at_call 18; (with_reducible refine (rright_rt _ _ _ (by assumption)).mono ?_); rintro e w' ⟨rfl, hbr⟩; obtain ⟨osr, dr, rfl⟩ := hbr.more)
  refine wp_plan (S := Ext _) [(0, 0), (2, 0), (1, 1), (3, 1), (4, 1), (5, 1), (6, 0), (7, 0), (8, 2), (9, 2)] [8, 9] (by kernel_rfl) (by kernel_rfl) (by kernel_rfl) (fun _ _ d _ _ h => by cases d <;> exact h) (Ext.drew (Ext.refl _)) ?_
  (refine wpPl_read (v := ?_) rfl ?_ (fun w1 h1 => ?_) ?_; rotate_left 1; rfl; (obtain ⟨os1, d1, rfl⟩ := h1.more; go_simp; first | done | rfl))
  try simp only [Act.put, List.setIfInBounds_toArray, List.set_cons_zero, List.set_cons_succ]
  (refine wpPl_read (v := ?_) rfl ?_ (fun w1 h1 => ?_) ?_; rotate_left 1; rfl; (obtain ⟨os1, d1, rfl⟩ := h1.more; go_simp; first | done | rfl))
  try simp only [Act.put, List.setIfInBounds_toArray, List.set_cons_zero, List.set_cons_succ]
  (refine wpPl_eff rfl ?_ (fun K hK => ?_); rfl; go_simp; (go_at_call 45; (with_reducible refine (hof1 _).mono ?_); rintro e w' ⟨A1, c1, rfl, hrd1, hcp1, hx⟩; obtain ⟨os1, d1, rfl⟩ := hx.more; have hrd1 := hrd1.mono (Nat.zero_le _); (try simp only [more_more, more_drew, drew_more, Array.append_assoc] at hrd1)); refine hK _ _ ?_ ?_; (repeat (first | with_reducible exact Ext.refl _ | with_reducible exact ext_d _ _ _ _ | with_reducible exact ext_app _ _ _ _ _ | with_reducible exact ext_app2 _ _ _ _ _ _ | with_reducible exact ext_app3 _ _ _ _ _ _ _ | with_reducible exact ext_app4 _ _ _ _ _ _ _ _ | with_reducible exact ext_app5 _ _ _ _ _ _ _ _ _ | ((with_reducible refine ext_suffix ⟨_, ?_⟩); (try simp only [Array.append_assoc]); rfl) | with_reducible apply Ext.drew | with_reducible apply Ext.alloc | with_reducible apply Ext.more_ | apply Ext.drew | apply Ext.alloc | apply Ext.more_)))
  try simp only [Act.put, List.setIfInBounds_toArray, List.set_cons_zero, List.set_cons_succ]
  (refine wpPl_eff rfl ?_ (fun K hK => ?_); rfl; go_simp; (go_at_call 45; (with_reducible refine (hof2 _).mono ?_); rintro e w' ⟨A2, c2, rfl, hrd2, hcp2, hx⟩; obtain ⟨os2, d2, rfl⟩ := hx.more; have hrd2 := hrd2.mono (Nat.zero_le _); (try simp only [more_more, more_drew, drew_more, Array.append_assoc] at hrd2)); refine hK _ _ ?_ ?_; (repeat (first | with_reducible exact Ext.refl _ | with_reducible exact ext_d _ _ _ _ | with_reducible exact ext_app _ _ _ _ _ | with_reducible exact ext_app2 _ _ _ _ _ _ | with_reducible exact ext_app3 _ _ _ _ _ _ _ | with_reducible exact ext_app4 _ _ _ _ _ _ _ _ | with_reducible exact ext_app5 _ _ _ _ _ _ _ _ _ | ((with_reducible refine ext_suffix ⟨_, ?_⟩); (try simp only [Array.append_assoc]); rfl) | with_reducible apply Ext.drew | with_reducible apply Ext.alloc | with_reducible apply Ext.more_ | apply Ext.drew | apply Ext.alloc | apply Ext.more_)))
  try simp only [Act.put, List.setIfInBounds_toArray, List.set_cons_zero, List.set_cons_succ]
  (refine wpPl_eff rfl ?_ (fun K hK => ?_); rfl; go_simp; (go_at_call 44; (with_reducible refine (hpl _ _ _ _ _ (Rd.ext hrd1 (by (try simp only [more_more, more_drew, drew_more, Array.append_assoc]); repeat (first | with_reducible exact Ext.refl _ | with_reducible exact ext_d _ _ _ _ | with_reducible exact ext_app _ _ _ _ _ | with_reducible exact ext_app2 _ _ _ _ _ _ | with_reducible exact ext_app3 _ _ _ _ _ _ _ | ((with_reducible refine ext_suffix ⟨_, ?_⟩); (try simp only [Array.append_assoc]); rfl) | with_reducible apply Ext.drew | with_reducible apply Ext.alloc | with_reducible apply Ext.more_))) (Rd.ext hrd2 (by (try simp only [more_more, more_drew, drew_more, Array.append_assoc]); repeat (first | with_reducible exact Ext.refl _ | with_reducible exact ext_d _ _ _ _ | with_reducible exact ext_app _ _ _ _ _ | with_reducible exact ext_app2 _ _ _ _ _ _ | with_reducible exact ext_app3 _ _ _ _ _ _ _ | ((with_reducible refine ext_suffix ⟨_, ?_⟩); (try simp only [Array.append_assoc]); rfl) | with_reducible apply Ext.drew | with_reducible apply Ext.alloc | with_reducible apply Ext.more_)))).mono ?_); rintro e w' ⟨⟨A3, c3, X3, rfl, hrx3, hn3, ha3, hv3, hc3⟩, hx⟩; obtain ⟨os3, d3, rfl⟩ := hx.more; (try simp only [more_more, more_drew, drew_more, Array.append_assoc] at hrx3)); refine hK _ _ ?_ ?_; (repeat (first | with_reducible exact Ext.refl _ | with_reducible exact ext_d _ _ _ _ | with_reducible exact ext_app _ _ _ _ _ | with_reducible exact ext_app2 _ _ _ _ _ _ | with_reducible exact ext_app3 _ _ _ _ _ _ _ | with_reducible exact ext_app4 _ _ _ _ _ _ _ _ | with_reducible exact ext_app5 _ _ _ _ _ _ _ _ _ | ((with_reducible refine ext_suffix ⟨_, ?_⟩); (try simp only [Array.append_assoc]); rfl) | with_reducible apply Ext.drew | with_reducible apply Ext.alloc | with_reducible apply Ext.more_ | apply Ext.drew | apply Ext.alloc | apply Ext.more_)))
  try simp only [Act.put, List.setIfInBounds_toArray, List.set_cons_zero, List.set_cons_succ]
  (refine wpPl_eff rfl ?_ (fun K hK => ?_); rfl; go_simp; (go_at_call 50; (with_reducible refine (hnr _ _ _ _ hn3 (Rd.mono hrx3 (Nat.zero_le _)) hc3 ha3 hv3).mono ?_); rintro e w' ⟨rfl, hx⟩; obtain ⟨os4, d4, rfl⟩ := hx.more); refine hK _ _ ?_ ?_; (repeat (first | with_reducible exact Ext.refl _ | with_reducible exact ext_d _ _ _ _ | with_reducible exact ext_app _ _ _ _ _ | with_reducible exact ext_app2 _ _ _ _ _ _ | with_reducible exact ext_app3 _ _ _ _ _ _ _ | with_reducible exact ext_app4 _ _ _ _ _ _ _ _ | with_reducible exact ext_app5 _ _ _ _ _ _ _ _ _ | ((with_reducible refine ext_suffix ⟨_, ?_⟩); (try simp only [Array.append_assoc]); rfl) | with_reducible apply Ext.drew | with_reducible apply Ext.alloc | with_reducible apply Ext.more_ | apply Ext.drew | apply Ext.alloc | apply Ext.more_)))
  try simp only [Act.put, List.setIfInBounds_toArray, List.set_cons_zero, List.set_cons_succ]
  (refine wpPl_read (v := ?_) rfl ?_ (fun w1 h1 => ?_) ?_; rotate_left 1; rfl; (obtain ⟨os1, d1, rfl⟩ := h1.more; go_simp; first | done | rfl))
  try simp only [Act.put, List.setIfInBounds_toArray, List.set_cons_zero, List.set_cons_succ]
  (refine wpPl_read (v := ?_) rfl ?_ (fun w1 h1 => ?_) ?_; rotate_left 1; rfl; (obtain ⟨os1, d1, rfl⟩ := h1.more; go_simp; first | done | rfl))
  try simp only [Act.put, List.setIfInBounds_toArray, List.set_cons_zero, List.set_cons_succ]
  (refine wpPl_tail rfl ?_ (fun K hK => ?_); rfl; go_simp; refine hK _ _ ?_)
  try simp only [Act.put]
  (refine wpPl_tail rfl ?_ (fun K hK => ?_); rfl; go_simp; refine hK _ _ ?_)
  try simp only [Act.put, List.setIfInBounds_toArray, List.set_cons_zero, List.set_cons_succ]
  refine wpPl_nil ?_
  go_wp2
  exact bodyPost_ret (v := rnV R) (by simp [results, Tryd.results37, go_sem]; done) rfl ⟨rfl, by repeat (first | with_reducible exact Ext.refl _ | with_reducible apply Ext.drew | with_reducible apply Ext.alloc | with_reducible apply Ext.more_)⟩
theorem radd_any (ma ea mb eb : Int) (w : World) (hma : I64 ma) (hmb : I64 mb) :
    Calls Tryd.prog 37 #[NV ma ea, NV mb eb] w fun e w' => e = .returned (rnV (addS ma ea mb eb)) ∧ Ext w w' := by
  unfold addS
  split
  · rename_i h; exact radd_yes ma ea mb eb w h.1 h.2
  · rename_i h; exact radd_no ma ea mb eb w hma hmb h

set_option maxHeartbeats 1000000 in
theorem rneg_any (m ex : Int) (w : World) (hm : I64 m) :
    Calls Tryd.prog 41 #[NV m ex] w fun e w' => e = .returned (NV (negM m ex) (zeroE m ex)) ∧ Ext w w' := by
  unfold negM zeroE
  by_cases h : Rt m ex
  · have hb := Rt_bd h
    have r1 := rtB_yes h
    rw [if_pos h, if_pos h]
    clear h
    have w1 : wrap64 (-m) = -m := IntWalk.wrap64_in _ (by omega)
    go_enter Tryd.func41, Tryd.ntmps41
    go_wp2_with (go_at_call 18; (with_reducible refine (rright_rt _ _ _ (by assumption)).mono ?_); rintro e w' ⟨rfl, hbr⟩; obtain ⟨osr, dr, rfl⟩ := hbr.more)
    exact bodyPost_ret (v := NV (-m) ex) (by simp [results, Tryd.results41, go_sem]; done) rfl ⟨rfl, by repeat (first | with_reducible exact Ext.refl _ | with_reducible apply Ext.drew | with_reducible apply Ext.alloc | with_reducible apply Ext.more_)⟩
  · have r1 := rtB_no h
    rw [if_neg h, if_neg h]
    clear h
    go_enter Tryd.func41, Tryd.ntmps41
    go_wp2_with (go_at_call 18; (with_reducible refine (rright_rt _ _ _ (by assumption)).mono ?_); rintro e w' ⟨rfl, hbr⟩; obtain ⟨osr, dr, rfl⟩ := hbr.more)
    exact bodyPost_ret (v := NV 0 0) (by simp [results, Tryd.results41, go_sem]; done) rfl ⟨rfl, by repeat (first | with_reducible exact Ext.refl _ | with_reducible apply Ext.drew | with_reducible apply Ext.alloc | with_reducible apply Ext.more_)⟩
theorem neg_yes {m e : Int} (h : Rt m e) : negM m e = -m ∧ zeroE m e = e := by unfold negM zeroE; rw [if_pos h, if_pos h]; exact ⟨rfl, rfl⟩
theorem Rt_neg {m e : Int} (h : Rt m e) : Rt (-m) e := by
  have := neg_rt (m := m) (e := e)
  rw [(neg_yes h).1, (neg_yes h).2] at this
  exact this
def subS (ma ea mb eb : Int) : Option (Int × Int) := if Rt ma ea ∧ Rt mb eb then rndI (sumI ma ea (-mb) eb) (min ea eb) else none
set_option maxRecDepth 100000 in
set_option maxHeartbeats 2000000 in
theorem rsub_any (ma ea mb eb : Int) (w : World) (hma : I64 ma) (hmb : I64 mb) :
    Calls Tryd.prog 39 #[NV ma ea, NV mb eb] w fun e w' => e = .returned (rnV (subS ma ea mb eb)) ∧ Ext w w' := by
  by_cases h1 : Rt ma ea
  · have r1 := rtB_yes h1
    by_cases h2 : Rt mb eb
    · have r2 := rtB_yes h2
      have hb := Rt_bd h2
      have hng := fun W => rneg_any mb eb W hmb
      rw [(neg_yes h2).1, (neg_yes h2).2] at hng
      have had := fun W => radd_any ma ea (-mb) eb W hma (by unfold I64; omega)
      have hs : addS ma ea (-mb) eb = subS ma ea mb eb := by unfold addS subS; rw [if_pos ⟨h1, Rt_neg h2⟩, if_pos ⟨h1, h2⟩]
      rw [hs] at had
      generalize subS ma ea mb eb = R at *
      clear h1 h2 hs
      go_enter Tryd.func39, Tryd.ntmps39
      go_wp2_with (go_at_call 18; (with_reducible refine (rright_rt _ _ _ (by assumption)).mono ?_); rintro e w' ⟨rfl, hbr⟩; obtain ⟨osr, dr, rfl⟩ := hbr.more)
      refine wp_plan (S := Ext _) [(0, 0), (1, 0), (2, 1), (3, 1), (4, 0), (5, 0), (6, 2), (7, 2)] [6, 7] (by kernel_rfl) (by kernel_rfl) (by kernel_rfl) (fun _ _ d _ _ h => by cases d <;> exact h) (Ext.drew (Ext.refl _)) ?_
      (refine wpPl_read (v := ?_) rfl ?_ (fun w1 h1 => ?_) ?_; rotate_left 1; rfl; (obtain ⟨os1, d1, rfl⟩ := h1.more; go_simp; first | done | rfl))
      try simp only [Act.put, List.setIfInBounds_toArray, List.set_cons_zero, List.set_cons_succ]
      (refine wpPl_read (v := ?_) rfl ?_ (fun w1 h1 => ?_) ?_; rotate_left 1; rfl; (obtain ⟨os1, d1, rfl⟩ := h1.more; go_simp; first | done | rfl))
      try simp only [Act.put, List.setIfInBounds_toArray, List.set_cons_zero, List.set_cons_succ]
      (refine wpPl_eff rfl ?_ (fun K hK => ?_); rfl; go_simp; (go_at_call 41; (with_reducible refine (hng _).mono ?_); rintro e w' ⟨rfl, hx⟩; obtain ⟨os4, d4, rfl⟩ := hx.more); refine hK _ _ ?_ ?_; (repeat (first | with_reducible exact Ext.refl _ | with_reducible exact ext_d _ _ _ _ | with_reducible exact ext_app _ _ _ _ _ | with_reducible exact ext_app2 _ _ _ _ _ _ | with_reducible exact ext_app3 _ _ _ _ _ _ _ | with_reducible exact ext_app4 _ _ _ _ _ _ _ _ | with_reducible exact ext_app5 _ _ _ _ _ _ _ _ _ | ((with_reducible refine ext_suffix ⟨_, ?_⟩); (try simp only [Array.append_assoc]); rfl) | with_reducible apply Ext.drew | with_reducible apply Ext.alloc | with_reducible apply Ext.more_ | apply Ext.drew | apply Ext.alloc | apply Ext.more_)))
      try simp only [Act.put, List.setIfInBounds_toArray, List.set_cons_zero, List.set_cons_succ]
      (refine wpPl_eff rfl ?_ (fun K hK => ?_); rfl; go_simp; (go_at_call 37; (with_reducible refine (had _).mono ?_); rintro e w' ⟨rfl, hx⟩; obtain ⟨os5, d5, rfl⟩ := hx.more); refine hK _ _ ?_ ?_; (repeat (first | with_reducible exact Ext.refl _ | with_reducible exact ext_d _ _ _ _ | with_reducible exact ext_app _ _ _ _ _ | with_reducible exact ext_app2 _ _ _ _ _ _ | with_reducible exact ext_app3 _ _ _ _ _ _ _ | with_reducible exact ext_app4 _ _ _ _ _ _ _ _ | with_reducible exact ext_app5 _ _ _ _ _ _ _ _ _ | ((with_reducible refine ext_suffix ⟨_, ?_⟩); (try simp only [Array.append_assoc]); rfl) | with_reducible apply Ext.drew | with_reducible apply Ext.alloc | with_reducible apply Ext.more_ | apply Ext.drew | apply Ext.alloc | apply Ext.more_)))
      try simp only [Act.put, List.setIfInBounds_toArray, List.set_cons_zero, List.set_cons_succ]
      (refine wpPl_read (v := ?_) rfl ?_ (fun w1 h1 => ?_) ?_; rotate_left 1; rfl; (obtain ⟨os1, d1, rfl⟩ := h1.more; go_simp; first | done | rfl))
      try simp only [Act.put, List.setIfInBounds_toArray, List.set_cons_zero, List.set_cons_succ]
      (refine wpPl_read (v := ?_) rfl ?_ (fun w1 h1 => ?_) ?_; rotate_left 1; rfl; (obtain ⟨os1, d1, rfl⟩ := h1.more; go_simp; first | done | rfl))
      try simp only [Act.put, List.setIfInBounds_toArray, List.set_cons_zero, List.set_cons_succ]
      (refine wpPl_tail rfl ?_ (fun K hK => ?_); rfl; go_simp; refine hK _ _ ?_)
      try simp only [Act.put]
      (refine wpPl_tail rfl ?_ (fun K hK => ?_); rfl; go_simp; refine hK _ _ ?_)
      try simp only [Act.put, List.setIfInBounds_toArray, List.set_cons_zero, List.set_cons_succ]
      refine wpPl_nil ?_
      go_wp2
      exact bodyPost_ret (v := rnV R) (by simp [results, Tryd.results39, go_sem]; done) rfl ⟨rfl, by repeat (first | with_reducible exact Ext.refl _ | with_reducible apply Ext.drew | with_reducible apply Ext.alloc | with_reducible apply Ext.more_)⟩
    · have r2 := rtB_no h2
      have hs : subS ma ea mb eb = none := by unfold subS; rw [if_neg (fun h => h2 h.2)]
      rw [hs]
      clear h1 h2 hs
      go_enter Tryd.func39, Tryd.ntmps39
      go_wp2_with (go_at_call 18; (with_reducible refine (rright_rt _ _ _ (by assumption)).mono ?_); rintro e w' ⟨rfl, hbr⟩; obtain ⟨osr, dr, rfl⟩ := hbr.more)
      exact bodyPost_ret (v := .tuple #[NV 0 0, .bool false]) (by simp [results, Tryd.results39, go_sem]; done) rfl ⟨rfl, by repeat (first | with_reducible exact Ext.refl _ | with_reducible apply Ext.drew | with_reducible apply Ext.alloc | with_reducible apply Ext.more_)⟩
  · have r1 := rtB_no h1
    have hs : subS ma ea mb eb = none := by unfold subS; rw [if_neg (fun h => h1 h.1)]
    rw [hs]
    clear h1 hs
    go_enter Tryd.func39, Tryd.ntmps39
    go_wp2_with (go_at_call 18; (with_reducible refine (rright_rt _ _ _ (by assumption)).mono ?_); rintro e w' ⟨rfl, hbr⟩; obtain ⟨osr, dr, rfl⟩ := hbr.more)
    exact bodyPost_ret (v := .tuple #[NV 0 0, .bool false]) (by simp [results, Tryd.results39, go_sem]; done) rfl ⟨rfl, by repeat (first | with_reducible exact Ext.refl _ | with_reducible apply Ext.drew | with_reducible apply Ext.alloc | with_reducible apply Ext.more_)⟩
/-- Which is the greater: P1.3. -/
def cmpS (ma ea mb eb : Int) : Int := if Rt ma ea ∧ Rt mb eb then (sumI ma ea (-mb) eb).sign else 0
theorem plusN_cmp (na nb : Bool) (Na Nb : Nat) : (sg na Na + sg nb Nb).sign = if (plusN na nb Na Nb).2 = 0 then 0 else if (plusN na nb Na Nb).1 = true then -1 else 1 := by
  rw [← plusN_sg]
  generalize plusN na nb Na Nb = p
  obtain ⟨n, N⟩ := p
  simp only
  by_cases h : N = 0
  · rw [if_pos h, h]; cases n <;> rfl
  · rw [if_neg h]
    have hp : (0 : Int) < (N : Int) := by omega
    cases n with
    | false => simp [sg]; omega
    | true => simp [sg]; omega
set_option maxRecDepth 100000 in
set_option maxHeartbeats 4000000 in
theorem rcmp_yes (ma ea mb eb : Int) (w : World) (h1 : Rt ma ea) (h2 : Rt mb eb) :
    Calls Tryd.prog 42 #[NV ma ea, NV mb eb] w fun e w' => e = .returned (.int .i64 (sumI ma ea (-mb) eb).sign) ∧ Ext w w' := by
  obtain ⟨b1, b2, b3⟩ := Rt_bd h1
  obtain ⟨b4, b5, b6⟩ := Rt_bd h2
  have hma : I64 ma := by unfold I64; omega
  have hmb : I64 mb := by unfold I64; omega
  have r1 := rtB_yes h1
  have r2 := rtB_yes h2
  have hng := fun W => rneg_any mb eb W hmb
  rw [(neg_yes h2).1, (neg_yes h2).2] at hng
  have hof1 := fun W => rof_any ma ea W hma
  have hof2 := fun W => rof_any (-mb) eb W (by unfold I64; omega)
  have hpl := fun A B ca cb W h3 h4 => plus_of ma ea (-mb) eb h1 (Rt_neg h2) A B ca cb W h3 h4
  have hT15 : T 15 = 1000000000000000 := by decide
  have n1 : nd ma.natAbs ≤ 15 := (nd_le_iff _ _).2 (by omega)
  have n2 : nd (-mb).natAbs ≤ 15 := (nd_le_iff _ _).2 (by omega)
  have hL : max (nd ma.natAbs + (ea - min ea eb).toNat) (nd (-mb).natAbs + (eb - min ea eb).toNat) + 1 ≤ 1000 := by omega
  have hs : sumI ma ea (-mb) eb = sg (decide (ma < 0)) (ma.natAbs * T (ea - min ea eb).toNat) + sg (decide (-mb < 0)) ((-mb).natAbs * T (eb - min ea eb).toNat) := by
    rw [sg_mul_nat, sg_mul_nat, sg_nat, sg_nat]; rfl
  rw [hs, plusN_cmp]
  generalize max (nd ma.natAbs + (ea - min ea eb).toNat) (nd (-mb).natAbs + (eb - min ea eb).toNat) + 1 = L at *
  generalize plusN (decide (ma < 0)) (decide (-mb < 0)) (ma.natAbs * T (ea - min ea eb).toNat) ((-mb).natAbs * T (eb - min ea eb).toNat) = PN at *
  generalize min ea eb = E at *
  obtain ⟨n, N⟩ := PN
  simp only at hpl ⊢
  have hst := fun (A : Option Addr) (cap : Nat) (l : List Nat) (W : World) (a1 : l.length = L) (a2 : Rd 0 W A (i6 l)) (a3 : L ≤ cap) (a4 : AllD l) (a5 : val l = N) => rstrip_dig 0 A cap L l N W a1 a2 (by omega) a3 a4 a5
  simp only [LOut, dig_length] at hst
  clear h1 h2 n1 n2 hT15 hs
  generalize decide (-mb < 0) = nb at *
  generalize ma.natAbs = Na at *
  generalize (-mb).natAbs = Nb at *
  by_cases h0 : N = 0
  · rw [if_pos h0]
    have hz : nd N = 0 := by rw [h0, nd_zero]
    rw [hz] at hst
    clear h0 hz
    go_enter Tryd.func42, Tryd.ntmps42
    go_wp2_with (go_at_call 18; (with_reducible refine (rright_rt _ _ _ (by assumption)).mono ?_); rintro e w' ⟨rfl, hbr⟩; obtain ⟨osr, dr, rfl⟩ := hbr.more)
    refine wp_plan (S := Ext _) [(0, 0), (2, 0), (1, 1), (3, 1), (4, 1), (5, 1), (6, 0), (7, 1), (8, 0)] [] (by kernel_rfl) (by kernel_rfl) (by kernel_rfl) (fun _ _ d _ _ h => by cases d <;> exact h) (Ext.drew (Ext.refl _)) ?_
    (refine wpPl_read (v := ?_) rfl ?_ (fun w1 h1 => ?_) ?_; rotate_left 1; rfl; (obtain ⟨os1, d1, rfl⟩ := h1.more; go_simp; first | done | rfl))
    try simp only [Act.put, List.setIfInBounds_toArray, List.set_cons_zero, List.set_cons_succ]
    (refine wpPl_read (v := ?_) rfl ?_ (fun w1 h1 => ?_) ?_; rotate_left 1; rfl; (obtain ⟨os1, d1, rfl⟩ := h1.more; go_simp; first | done | rfl))
    try simp only [Act.put, List.setIfInBounds_toArray, List.set_cons_zero, List.set_cons_succ]
    (refine wpPl_eff rfl ?_ (fun K hK => ?_); rfl; go_simp; (go_at_call 45; (with_reducible refine (hof1 _).mono ?_); rintro e w' ⟨A1, c1, rfl, hrd1, hcp1, hx⟩; obtain ⟨os1, d1, rfl⟩ := hx.more; have hrd1 := hrd1.mono (Nat.zero_le _); (try simp only [more_more, more_drew, drew_more, Array.append_assoc] at hrd1)); refine hK _ _ ?_ ?_; (repeat (first | with_reducible exact Ext.refl _ | with_reducible exact ext_d _ _ _ _ | with_reducible exact ext_app _ _ _ _ _ | with_reducible exact ext_app2 _ _ _ _ _ _ | with_reducible exact ext_app3 _ _ _ _ _ _ _ | with_reducible exact ext_app4 _ _ _ _ _ _ _ _ | with_reducible exact ext_app5 _ _ _ _ _ _ _ _ _ | ((with_reducible refine ext_suffix ⟨_, ?_⟩); (try simp only [Array.append_assoc]); rfl) | with_reducible apply Ext.drew | with_reducible apply Ext.alloc | with_reducible apply Ext.more_ | apply Ext.drew | apply Ext.alloc | apply Ext.more_)))
    try simp only [Act.put, List.setIfInBounds_toArray, List.set_cons_zero, List.set_cons_succ]
    (refine wpPl_eff rfl ?_ (fun K hK => ?_); rfl; go_simp; (go_at_call 41; (with_reducible refine (hng _).mono ?_); rintro e w' ⟨rfl, hx⟩; obtain ⟨osn, dn, rfl⟩ := hx.more); refine hK _ _ ?_ ?_; (repeat (first | with_reducible exact Ext.refl _ | with_reducible exact ext_d _ _ _ _ | with_reducible exact ext_app _ _ _ _ _ | with_reducible exact ext_app2 _ _ _ _ _ _ | with_reducible exact ext_app3 _ _ _ _ _ _ _ | with_reducible exact ext_app4 _ _ _ _ _ _ _ _ | with_reducible exact ext_app5 _ _ _ _ _ _ _ _ _ | ((with_reducible refine ext_suffix ⟨_, ?_⟩); (try simp only [Array.append_assoc]); rfl) | with_reducible apply Ext.drew | with_reducible apply Ext.alloc | with_reducible apply Ext.more_ | apply Ext.drew | apply Ext.alloc | apply Ext.more_)))
    try simp only [Act.put, List.setIfInBounds_toArray, List.set_cons_zero, List.set_cons_succ]
    (refine wpPl_eff rfl ?_ (fun K hK => ?_); rfl; go_simp; (go_at_call 45; (with_reducible refine (hof2 _).mono ?_); rintro e w' ⟨A2, c2, rfl, hrd2, hcp2, hx⟩; obtain ⟨os2, d2, rfl⟩ := hx.more; have hrd2 := hrd2.mono (Nat.zero_le _); (try simp only [more_more, more_drew, drew_more, Array.append_assoc] at hrd2)); refine hK _ _ ?_ ?_; (repeat (first | with_reducible exact Ext.refl _ | with_reducible exact ext_d _ _ _ _ | with_reducible exact ext_app _ _ _ _ _ | with_reducible exact ext_app2 _ _ _ _ _ _ | with_reducible exact ext_app3 _ _ _ _ _ _ _ | with_reducible exact ext_app4 _ _ _ _ _ _ _ _ | with_reducible exact ext_app5 _ _ _ _ _ _ _ _ _ | ((with_reducible refine ext_suffix ⟨_, ?_⟩); (try simp only [Array.append_assoc]); rfl) | with_reducible apply Ext.drew | with_reducible apply Ext.alloc | with_reducible apply Ext.more_ | apply Ext.drew | apply Ext.alloc | apply Ext.more_)))
    try simp only [Act.put, List.setIfInBounds_toArray, List.set_cons_zero, List.set_cons_succ]
    (refine wpPl_eff rfl ?_ (fun K hK => ?_); rfl; go_simp; (go_at_call 44; (with_reducible refine (hpl _ _ _ _ _ (Rd.ext hrd1 (by (try simp only [more_more, more_drew, drew_more, Array.append_assoc]); repeat (first | with_reducible exact Ext.refl _ | with_reducible exact ext_d _ _ _ _ | with_reducible exact ext_app _ _ _ _ _ | with_reducible exact ext_app2 _ _ _ _ _ _ | with_reducible exact ext_app3 _ _ _ _ _ _ _ | ((with_reducible refine ext_suffix ⟨_, ?_⟩); (try simp only [Array.append_assoc]); rfl) | with_reducible apply Ext.drew | with_reducible apply Ext.alloc | with_reducible apply Ext.more_))) (Rd.ext hrd2 (by (try simp only [more_more, more_drew, drew_more, Array.append_assoc]); repeat (first | with_reducible exact Ext.refl _ | with_reducible exact ext_d _ _ _ _ | with_reducible exact ext_app _ _ _ _ _ | with_reducible exact ext_app2 _ _ _ _ _ _ | with_reducible exact ext_app3 _ _ _ _ _ _ _ | ((with_reducible refine ext_suffix ⟨_, ?_⟩); (try simp only [Array.append_assoc]); rfl) | with_reducible apply Ext.drew | with_reducible apply Ext.alloc | with_reducible apply Ext.more_)))).mono ?_); rintro e w' ⟨⟨A3, c3, X3, rfl, hrx3, hn3, ha3, hv3, hc3⟩, hx⟩; obtain ⟨os3, d3, rfl⟩ := hx.more; (try simp only [more_more, more_drew, drew_more, Array.append_assoc] at hrx3)); refine hK _ _ ?_ ?_; (repeat (first | with_reducible exact Ext.refl _ | with_reducible exact ext_d _ _ _ _ | with_reducible exact ext_app _ _ _ _ _ | with_reducible exact ext_app2 _ _ _ _ _ _ | with_reducible exact ext_app3 _ _ _ _ _ _ _ | with_reducible exact ext_app4 _ _ _ _ _ _ _ _ | with_reducible exact ext_app5 _ _ _ _ _ _ _ _ _ | ((with_reducible refine ext_suffix ⟨_, ?_⟩); (try simp only [Array.append_assoc]); rfl) | with_reducible apply Ext.drew | with_reducible apply Ext.alloc | with_reducible apply Ext.more_ | apply Ext.drew | apply Ext.alloc | apply Ext.more_)))
    try simp only [Act.put, List.setIfInBounds_toArray, List.set_cons_zero, List.set_cons_succ]
    (refine wpPl_read (v := ?_) rfl ?_ (fun w1 h1 => ?_) ?_; rotate_left 1; rfl; (obtain ⟨os1, d1, rfl⟩ := h1.more; go_simp; first | done | rfl))
    try simp only [Act.put, List.setIfInBounds_toArray, List.set_cons_zero, List.set_cons_succ]
    (refine wpPl_eff rfl ?_ (fun K hK => ?_); rfl; go_simp; (go_at_call 69; (with_reducible refine (hst _ _ _ _ hn3 (Rd.mono hrx3 (Nat.zero_le _)) hc3 ha3 hv3).mono ?_); rintro e w' ⟨⟨A4, c4, rfl, _, _⟩, rfl⟩); refine hK _ _ ?_ ?_; (repeat (first | with_reducible exact Ext.refl _ | with_reducible exact ext_d _ _ _ _ | with_reducible exact ext_app _ _ _ _ _ | with_reducible exact ext_app2 _ _ _ _ _ _ | with_reducible exact ext_app3 _ _ _ _ _ _ _ | with_reducible exact ext_app4 _ _ _ _ _ _ _ _ | with_reducible exact ext_app5 _ _ _ _ _ _ _ _ _ | ((with_reducible refine ext_suffix ⟨_, ?_⟩); (try simp only [Array.append_assoc]); rfl) | with_reducible apply Ext.drew | with_reducible apply Ext.alloc | with_reducible apply Ext.more_ | apply Ext.drew | apply Ext.alloc | apply Ext.more_)))
    try simp only [Act.put, List.setIfInBounds_toArray, List.set_cons_zero, List.set_cons_succ]
    (refine wpPl_read (v := ?_) rfl ?_ (fun w1 h1 => ?_) ?_; rotate_left 1; rfl; (obtain ⟨os1, d1, rfl⟩ := h1.more; go_simp; first | done | rfl))
    try simp only [Act.put, List.setIfInBounds_toArray, List.set_cons_zero, List.set_cons_succ]
    refine wpPl_nil ?_
    go_wp2
    go_ret
    exact ⟨rfl, by repeat (first | with_reducible exact Ext.refl _ | with_reducible apply Ext.drew | with_reducible apply Ext.alloc | with_reducible apply Ext.more_)⟩
  · rw [if_neg h0]
    have hz : (nd N == 0) = false := by rw [nd_pos h0]; simp
    have hz' : ((nd N : Int) == 0) = false := by rw [nd_pos h0]; simp; omega
    generalize nd N = k at *
    generalize hR : (if n = true then (-1 : Int) else 1) = R
    have HR := Lib.hid hR
    clear h0 hR
    go_enter Tryd.func42, Tryd.ntmps42
    go_wp2_with (go_at_call 18; (with_reducible refine (rright_rt _ _ _ (by assumption)).mono ?_); rintro e w' ⟨rfl, hbr⟩; obtain ⟨osr, dr, rfl⟩ := hbr.more)
    refine wp_plan (S := Ext _) [(0, 0), (2, 0), (1, 1), (3, 1), (4, 1), (5, 1), (6, 0), (7, 1), (8, 0)] [] (by kernel_rfl) (by kernel_rfl) (by kernel_rfl) (fun _ _ d _ _ h => by cases d <;> exact h) (Ext.drew (Ext.refl _)) ?_
    (refine wpPl_read (v := ?_) rfl ?_ (fun w1 h1 => ?_) ?_; rotate_left 1; rfl; (obtain ⟨os1, d1, rfl⟩ := h1.more; go_simp; first | done | rfl))
    try simp only [Act.put, List.setIfInBounds_toArray, List.set_cons_zero, List.set_cons_succ]
    (refine wpPl_read (v := ?_) rfl ?_ (fun w1 h1 => ?_) ?_; rotate_left 1; rfl; (obtain ⟨os1, d1, rfl⟩ := h1.more; go_simp; first | done | rfl))
    try simp only [Act.put, List.setIfInBounds_toArray, List.set_cons_zero, List.set_cons_succ]
    (refine wpPl_eff rfl ?_ (fun K hK => ?_); rfl; go_simp; (go_at_call 45; (with_reducible refine (hof1 _).mono ?_); rintro e w' ⟨A1, c1, rfl, hrd1, hcp1, hx⟩; obtain ⟨os1, d1, rfl⟩ := hx.more; have hrd1 := hrd1.mono (Nat.zero_le _); (try simp only [more_more, more_drew, drew_more, Array.append_assoc] at hrd1)); refine hK _ _ ?_ ?_; (repeat (first | with_reducible exact Ext.refl _ | with_reducible exact ext_d _ _ _ _ | with_reducible exact ext_app _ _ _ _ _ | with_reducible exact ext_app2 _ _ _ _ _ _ | with_reducible exact ext_app3 _ _ _ _ _ _ _ | with_reducible exact ext_app4 _ _ _ _ _ _ _ _ | with_reducible exact ext_app5 _ _ _ _ _ _ _ _ _ | ((with_reducible refine ext_suffix ⟨_, ?_⟩); (try simp only [Array.append_assoc]); rfl) | with_reducible apply Ext.drew | with_reducible apply Ext.alloc | with_reducible apply Ext.more_ | apply Ext.drew | apply Ext.alloc | apply Ext.more_)))
    try simp only [Act.put, List.setIfInBounds_toArray, List.set_cons_zero, List.set_cons_succ]
    (refine wpPl_eff rfl ?_ (fun K hK => ?_); rfl; go_simp; (go_at_call 41; (with_reducible refine (hng _).mono ?_); rintro e w' ⟨rfl, hx⟩; obtain ⟨osn, dn, rfl⟩ := hx.more); refine hK _ _ ?_ ?_; (repeat (first | with_reducible exact Ext.refl _ | with_reducible exact ext_d _ _ _ _ | with_reducible exact ext_app _ _ _ _ _ | with_reducible exact ext_app2 _ _ _ _ _ _ | with_reducible exact ext_app3 _ _ _ _ _ _ _ | with_reducible exact ext_app4 _ _ _ _ _ _ _ _ | with_reducible exact ext_app5 _ _ _ _ _ _ _ _ _ | ((with_reducible refine ext_suffix ⟨_, ?_⟩); (try simp only [Array.append_assoc]); rfl) | with_reducible apply Ext.drew | with_reducible apply Ext.alloc | with_reducible apply Ext.more_ | apply Ext.drew | apply Ext.alloc | apply Ext.more_)))
    try simp only [Act.put, List.setIfInBounds_toArray, List.set_cons_zero, List.set_cons_succ]
    (refine wpPl_eff rfl ?_ (fun K hK => ?_); rfl; go_simp; (go_at_call 45; (with_reducible refine (hof2 _).mono ?_); rintro e w' ⟨A2, c2, rfl, hrd2, hcp2, hx⟩; obtain ⟨os2, d2, rfl⟩ := hx.more; have hrd2 := hrd2.mono (Nat.zero_le _); (try simp only [more_more, more_drew, drew_more, Array.append_assoc] at hrd2)); refine hK _ _ ?_ ?_; (repeat (first | with_reducible exact Ext.refl _ | with_reducible exact ext_d _ _ _ _ | with_reducible exact ext_app _ _ _ _ _ | with_reducible exact ext_app2 _ _ _ _ _ _ | with_reducible exact ext_app3 _ _ _ _ _ _ _ | with_reducible exact ext_app4 _ _ _ _ _ _ _ _ | with_reducible exact ext_app5 _ _ _ _ _ _ _ _ _ | ((with_reducible refine ext_suffix ⟨_, ?_⟩); (try simp only [Array.append_assoc]); rfl) | with_reducible apply Ext.drew | with_reducible apply Ext.alloc | with_reducible apply Ext.more_ | apply Ext.drew | apply Ext.alloc | apply Ext.more_)))
    try simp only [Act.put, List.setIfInBounds_toArray, List.set_cons_zero, List.set_cons_succ]
    (refine wpPl_eff rfl ?_ (fun K hK => ?_); rfl; go_simp; (go_at_call 44; (with_reducible refine (hpl _ _ _ _ _ (Rd.ext hrd1 (by (try simp only [more_more, more_drew, drew_more, Array.append_assoc]); repeat (first | with_reducible exact Ext.refl _ | with_reducible exact ext_d _ _ _ _ | with_reducible exact ext_app _ _ _ _ _ | with_reducible exact ext_app2 _ _ _ _ _ _ | with_reducible exact ext_app3 _ _ _ _ _ _ _ | ((with_reducible refine ext_suffix ⟨_, ?_⟩); (try simp only [Array.append_assoc]); rfl) | with_reducible apply Ext.drew | with_reducible apply Ext.alloc | with_reducible apply Ext.more_))) (Rd.ext hrd2 (by (try simp only [more_more, more_drew, drew_more, Array.append_assoc]); repeat (first | with_reducible exact Ext.refl _ | with_reducible exact ext_d _ _ _ _ | with_reducible exact ext_app _ _ _ _ _ | with_reducible exact ext_app2 _ _ _ _ _ _ | with_reducible exact ext_app3 _ _ _ _ _ _ _ | ((with_reducible refine ext_suffix ⟨_, ?_⟩); (try simp only [Array.append_assoc]); rfl) | with_reducible apply Ext.drew | with_reducible apply Ext.alloc | with_reducible apply Ext.more_)))).mono ?_); rintro e w' ⟨⟨A3, c3, X3, rfl, hrx3, hn3, ha3, hv3, hc3⟩, hx⟩; obtain ⟨os3, d3, rfl⟩ := hx.more; (try simp only [more_more, more_drew, drew_more, Array.append_assoc] at hrx3)); refine hK _ _ ?_ ?_; (repeat (first | with_reducible exact Ext.refl _ | with_reducible exact ext_d _ _ _ _ | with_reducible exact ext_app _ _ _ _ _ | with_reducible exact ext_app2 _ _ _ _ _ _ | with_reducible exact ext_app3 _ _ _ _ _ _ _ | with_reducible exact ext_app4 _ _ _ _ _ _ _ _ | with_reducible exact ext_app5 _ _ _ _ _ _ _ _ _ | ((with_reducible refine ext_suffix ⟨_, ?_⟩); (try simp only [Array.append_assoc]); rfl) | with_reducible apply Ext.drew | with_reducible apply Ext.alloc | with_reducible apply Ext.more_ | apply Ext.drew | apply Ext.alloc | apply Ext.more_)))
    try simp only [Act.put, List.setIfInBounds_toArray, List.set_cons_zero, List.set_cons_succ]
    (refine wpPl_read (v := ?_) rfl ?_ (fun w1 h1 => ?_) ?_; rotate_left 1; rfl; (obtain ⟨os1, d1, rfl⟩ := h1.more; go_simp; first | done | rfl))
    try simp only [Act.put, List.setIfInBounds_toArray, List.set_cons_zero, List.set_cons_succ]
    (refine wpPl_eff rfl ?_ (fun K hK => ?_); rfl; go_simp; (go_at_call 69; (with_reducible refine (hst _ _ _ _ hn3 (Rd.mono hrx3 (Nat.zero_le _)) hc3 ha3 hv3).mono ?_); rintro e w' ⟨⟨A4, c4, rfl, _, _⟩, rfl⟩); refine hK _ _ ?_ ?_; (repeat (first | with_reducible exact Ext.refl _ | with_reducible exact ext_d _ _ _ _ | with_reducible exact ext_app _ _ _ _ _ | with_reducible exact ext_app2 _ _ _ _ _ _ | with_reducible exact ext_app3 _ _ _ _ _ _ _ | with_reducible exact ext_app4 _ _ _ _ _ _ _ _ | with_reducible exact ext_app5 _ _ _ _ _ _ _ _ _ | ((with_reducible refine ext_suffix ⟨_, ?_⟩); (try simp only [Array.append_assoc]); rfl) | with_reducible apply Ext.drew | with_reducible apply Ext.alloc | with_reducible apply Ext.more_ | apply Ext.drew | apply Ext.alloc | apply Ext.more_)))
    try simp only [Act.put, List.setIfInBounds_toArray, List.set_cons_zero, List.set_cons_succ]
    (refine wpPl_read (v := ?_) rfl ?_ (fun w1 h1 => ?_) ?_; rotate_left 1; rfl; (obtain ⟨os1, d1, rfl⟩ := h1.more; go_simp; first | done | rfl))
    try simp only [Act.put, List.setIfInBounds_toArray, List.set_cons_zero, List.set_cons_succ]
    refine wpPl_nil ?_
    clear hrd1 hrd2 hrx3 ha3 hv3 hn3 hst
    go_wp2
    refine wp_world fun W hW => ?_
    have c0 : W.cell? ⟨w.heap.size, 0, none⟩ = some (.int .i64 ma) := by rw [hW]; go_simp
    have c1 : W.cell? ⟨w.heap.size, 1, none⟩ = some (.int .i64 ea) := by rw [hW]; go_simp
    have c2 : W.cell? ⟨w.heap.size + 1, 0, none⟩ = some (.int .i64 mb) := by rw [hW]; go_simp
    have c3 : W.cell? ⟨w.heap.size + 1, 1, none⟩ = some (.int .i64 eb) := by rw [hW]; go_simp
    have hz1 : w.heap.size + 1 < W.heap.size := by rw [hW]; simp; try omega
    have hz0 : w.heap.size < W.heap.size := by omega
    have hxW : Ext w W := by rw [hW]; exact by repeat (first | with_reducible exact Ext.refl _ | with_reducible apply Ext.drew | with_reducible apply Ext.alloc | with_reducible apply Ext.more_)
    clear hW
    refine wp_plan (S := Ext _) [(0, 0), (2, 0), (1, 1), (3, 1), (4, 1), (5, 1), (6, 0)] [] (by kernel_rfl) (by kernel_rfl) (by kernel_rfl) (fun _ _ d _ _ h => by cases d <;> exact h) (Ext.drew (Ext.refl _)) ?_
    (refine wpPl_read (v := ?_) rfl ?_ (fun w1 h1 => ?_) ?_; rotate_left 1; rfl; (obtain ⟨os1, d1, rfl⟩ := h1.more; go_simp; first | done | rfl))
    try simp only [Act.put, List.setIfInBounds_toArray, List.set_cons_zero, List.set_cons_succ]
    (refine wpPl_read (v := ?_) rfl ?_ (fun w1 h1 => ?_) ?_; rotate_left 1; rfl; (obtain ⟨os1, d1, rfl⟩ := h1.more; go_simp; first | done | rfl))
    try simp only [Act.put, List.setIfInBounds_toArray, List.set_cons_zero, List.set_cons_succ]
    (refine wpPl_eff rfl ?_ (fun K hK => ?_); rfl; go_simp; (go_at_call 45; (with_reducible refine (hof1 _).mono ?_); rintro e w' ⟨A1, c1, rfl, hrd1, hcp1, hx⟩; obtain ⟨os1, d1, rfl⟩ := hx.more; have hrd1 := hrd1.mono (Nat.zero_le _); (try simp only [more_more, more_drew, drew_more, Array.append_assoc] at hrd1)); refine hK _ _ ?_ ?_; (repeat (first | with_reducible exact Ext.refl _ | with_reducible exact ext_d _ _ _ _ | with_reducible exact ext_app _ _ _ _ _ | with_reducible exact ext_app2 _ _ _ _ _ _ | with_reducible exact ext_app3 _ _ _ _ _ _ _ | with_reducible exact ext_app4 _ _ _ _ _ _ _ _ | with_reducible exact ext_app5 _ _ _ _ _ _ _ _ _ | ((with_reducible refine ext_suffix ⟨_, ?_⟩); (try simp only [Array.append_assoc]); rfl) | with_reducible apply Ext.drew | with_reducible apply Ext.alloc | with_reducible apply Ext.more_ | apply Ext.drew | apply Ext.alloc | apply Ext.more_)))
    try simp only [Act.put, List.setIfInBounds_toArray, List.set_cons_zero, List.set_cons_succ]
    (refine wpPl_eff rfl ?_ (fun K hK => ?_); rfl; go_simp; (go_at_call 41; (with_reducible refine (hng _).mono ?_); rintro e w' ⟨rfl, hx⟩; obtain ⟨osn, dn, rfl⟩ := hx.more); refine hK _ _ ?_ ?_; (repeat (first | with_reducible exact Ext.refl _ | with_reducible exact ext_d _ _ _ _ | with_reducible exact ext_app _ _ _ _ _ | with_reducible exact ext_app2 _ _ _ _ _ _ | with_reducible exact ext_app3 _ _ _ _ _ _ _ | with_reducible exact ext_app4 _ _ _ _ _ _ _ _ | with_reducible exact ext_app5 _ _ _ _ _ _ _ _ _ | ((with_reducible refine ext_suffix ⟨_, ?_⟩); (try simp only [Array.append_assoc]); rfl) | with_reducible apply Ext.drew | with_reducible apply Ext.alloc | with_reducible apply Ext.more_ | apply Ext.drew | apply Ext.alloc | apply Ext.more_)))
    try simp only [Act.put, List.setIfInBounds_toArray, List.set_cons_zero, List.set_cons_succ]
    (refine wpPl_eff rfl ?_ (fun K hK => ?_); rfl; go_simp; (go_at_call 45; (with_reducible refine (hof2 _).mono ?_); rintro e w' ⟨A2, c2, rfl, hrd2, hcp2, hx⟩; obtain ⟨os2, d2, rfl⟩ := hx.more; have hrd2 := hrd2.mono (Nat.zero_le _); (try simp only [more_more, more_drew, drew_more, Array.append_assoc] at hrd2)); refine hK _ _ ?_ ?_; (repeat (first | with_reducible exact Ext.refl _ | with_reducible exact ext_d _ _ _ _ | with_reducible exact ext_app _ _ _ _ _ | with_reducible exact ext_app2 _ _ _ _ _ _ | with_reducible exact ext_app3 _ _ _ _ _ _ _ | with_reducible exact ext_app4 _ _ _ _ _ _ _ _ | with_reducible exact ext_app5 _ _ _ _ _ _ _ _ _ | ((with_reducible refine ext_suffix ⟨_, ?_⟩); (try simp only [Array.append_assoc]); rfl) | with_reducible apply Ext.drew | with_reducible apply Ext.alloc | with_reducible apply Ext.more_ | apply Ext.drew | apply Ext.alloc | apply Ext.more_)))
    try simp only [Act.put, List.setIfInBounds_toArray, List.set_cons_zero, List.set_cons_succ]
    (refine wpPl_eff rfl ?_ (fun K hK => ?_); rfl; go_simp; (go_at_call 44; (with_reducible refine (hpl _ _ _ _ _ (Rd.ext hrd1 (by (try simp only [more_more, more_drew, drew_more, Array.append_assoc]); repeat (first | with_reducible exact Ext.refl _ | with_reducible exact ext_d _ _ _ _ | with_reducible exact ext_app _ _ _ _ _ | with_reducible exact ext_app2 _ _ _ _ _ _ | with_reducible exact ext_app3 _ _ _ _ _ _ _ | ((with_reducible refine ext_suffix ⟨_, ?_⟩); (try simp only [Array.append_assoc]); rfl) | with_reducible apply Ext.drew | with_reducible apply Ext.alloc | with_reducible apply Ext.more_))) (Rd.ext hrd2 (by (try simp only [more_more, more_drew, drew_more, Array.append_assoc]); repeat (first | with_reducible exact Ext.refl _ | with_reducible exact ext_d _ _ _ _ | with_reducible exact ext_app _ _ _ _ _ | with_reducible exact ext_app2 _ _ _ _ _ _ | with_reducible exact ext_app3 _ _ _ _ _ _ _ | ((with_reducible refine ext_suffix ⟨_, ?_⟩); (try simp only [Array.append_assoc]); rfl) | with_reducible apply Ext.drew | with_reducible apply Ext.alloc | with_reducible apply Ext.more_)))).mono ?_); rintro e w' ⟨⟨A3, c3, X3, rfl, hrx3, hn3, ha3, hv3, hc3⟩, hx⟩; obtain ⟨os3, d3, rfl⟩ := hx.more; (try simp only [more_more, more_drew, drew_more, Array.append_assoc] at hrx3)); refine hK _ _ ?_ ?_; (repeat (first | with_reducible exact Ext.refl _ | with_reducible exact ext_d _ _ _ _ | with_reducible exact ext_app _ _ _ _ _ | with_reducible exact ext_app2 _ _ _ _ _ _ | with_reducible exact ext_app3 _ _ _ _ _ _ _ | with_reducible exact ext_app4 _ _ _ _ _ _ _ _ | with_reducible exact ext_app5 _ _ _ _ _ _ _ _ _ | ((with_reducible refine ext_suffix ⟨_, ?_⟩); (try simp only [Array.append_assoc]); rfl) | with_reducible apply Ext.drew | with_reducible apply Ext.alloc | with_reducible apply Ext.more_ | apply Ext.drew | apply Ext.alloc | apply Ext.more_)))
    try simp only [Act.put, List.setIfInBounds_toArray, List.set_cons_zero, List.set_cons_succ]
    (refine wpPl_read (v := ?_) rfl ?_ (fun w1 h1 => ?_) ?_; rotate_left 1; rfl; (obtain ⟨os1, d1, rfl⟩ := h1.more; go_simp; first | done | rfl))
    try simp only [Act.put, List.setIfInBounds_toArray, List.set_cons_zero, List.set_cons_succ]
    refine wpPl_nil ?_
    cases n with
    | true =>
      go_wp2
      go_ret
      exact ⟨by rw [← HR.out]; rfl, hxW.trans (by repeat (first | with_reducible exact Ext.refl _ | with_reducible apply Ext.drew | with_reducible apply Ext.alloc | with_reducible apply Ext.more_))⟩
    | false =>
      go_wp2
      go_ret
      exact ⟨by rw [← HR.out]; rfl, hxW.trans (by repeat (first | with_reducible exact Ext.refl _ | with_reducible apply Ext.drew | with_reducible apply Ext.alloc | with_reducible apply Ext.more_))⟩
set_option maxRecDepth 100000 in
set_option maxHeartbeats 2000000 in
theorem rcmp_any (ma ea mb eb : Int) (w : World) (hma : I64 ma) (hmb : I64 mb) :
    Calls Tryd.prog 42 #[NV ma ea, NV mb eb] w fun e w' => e = .returned (.int .i64 (cmpS ma ea mb eb)) ∧ Ext w w' := by
  unfold cmpS
  by_cases h1 : Rt ma ea
  · have r1 := rtB_yes h1
    by_cases h2 : Rt mb eb
    · rw [if_pos ⟨h1, h2⟩]; exact rcmp_yes ma ea mb eb w h1 h2
    · have r2 := rtB_no h2
      rw [if_neg (fun h => h2 h.2)]
      clear h1 h2
      go_enter Tryd.func42, Tryd.ntmps42
      go_wp2_with (go_at_call 18; (with_reducible refine (rright_rt _ _ _ (by assumption)).mono ?_); rintro e w' ⟨rfl, hbr⟩; obtain ⟨osr, dr, rfl⟩ := hbr.more)
      go_ret
      exact ⟨rfl, by repeat (first | with_reducible exact Ext.refl _ | with_reducible apply Ext.drew | with_reducible apply Ext.alloc | with_reducible apply Ext.more_)⟩
  · have r1 := rtB_no h1
    rw [if_neg (fun h => h1 h.1)]
    clear h1
    go_enter Tryd.func42, Tryd.ntmps42
    go_wp2_with (go_at_call 18; (with_reducible refine (rright_rt _ _ _ (by assumption)).mono ?_); rintro e w' ⟨rfl, hbr⟩; obtain ⟨osr, dr, rfl⟩ := hbr.more)
    go_ret
    exact ⟨rfl, by repeat (first | with_reducible exact Ext.refl _ | with_reducible apply Ext.drew | with_reducible apply Ext.alloc | with_reducible apply Ext.more_)⟩
end Go.Proofs.YtihfiegopnjeiaaDoor
