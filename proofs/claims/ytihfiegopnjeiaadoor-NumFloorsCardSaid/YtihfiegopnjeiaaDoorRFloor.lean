/- counterpaneref01.Floor. -/
import Derived.Test.YtihfiegopnjeiaaDoorRRound
namespace Go.Proofs.YtihfiegopnjeiaaDoor
set_option linter.unusedSimpArgs false
set_option linter.unusedVariables false
open Go.RowKit NM

theorem fin_whole {neg : Bool} {N : Nat} (h : nd N ≤ 15) : rnd neg N false 0 = some (sg neg (trim N 0).1, (trim N 0).2) := by
  rw [rnd_small h (by omega)]
  unfold fin
  by_cases h0 : N = 0
  · subst h0; rw [if_pos rfl, trim_zero]; cases neg <;> rfl
  · rw [if_neg h0, if_neg (by omega)]
theorem plus_tt (a b : Nat) : plusN true true a b = (true, a + b) := by simp [plusN]
set_option maxRecDepth 100000 in
set_option maxHeartbeats 4000000 in
theorem rfloor_yes (m ex : Int) (k : Nat) (w : World) (h : Rt m ex) (he : ex < 0) (hk : -ex = (k : Int)) :
    Calls Tryd.prog 28 #[NV m ex] w fun e w' => e = .returned (NV (rm (rnd (decide (m < 0)) (floorN m k) false 0)) (re (rnd (decide (m < 0)) (floorN m k) false 0))) ∧ Ext w w' := by
  obtain ⟨b1, b2, b3⟩ := Rt_bd h
  have hm : I64 m := by unfold I64; omega
  have r1 := rtB_yes h
  have hT15 : T 15 = 1000000000000000 := by decide
  have hnd : nd m.natAbs ≤ 15 := (nd_le_iff _ _).2 (by omega)
  have hof := fun W => rof_any m ex W hm
  have hdl := dig_length m.natAbs
  have hdall := dig_all m.natAbs
  have hval := take_val hdall (nd m.natAbs - k)
  rw [val_dig, hdl] at hval
  by_cases hneg : m < 0
  · have hfl : floorN m k = m.natAbs / T k + 1 := by unfold floorN; rw [if_pos hneg]
    have hng : decide (m < 0) = true := by simp [hneg]
    rw [hfl, hng]
    rw [hng] at hof
    by_cases hpos : k < nd m.natAbs
    · have hv : val ((dig m.natAbs).take (nd m.natAbs - k)) = m.natAbs / T k := by rw [hval.1]; congr 2; omega
      have hll : ((dig m.natAbs).take (nd m.natAbs - k)).length = nd m.natAbs - k := by rw [List.length_take, hdl]; omega
      have hal := hdall.take (nd m.natAbs - k)
      have hx1 : ((nd m.natAbs : Int) + ex) = ((nd m.natAbs - k : Nat) : Int) := by omega
      obtain ⟨x0, hx0⟩ : ∃ x, (dig m.natAbs)[0]? = some x := ⟨(dig m.natAbs)[0]'(by rw [hdl]; omega), by rw [List.getElem?_eq_getElem]⟩
      generalize m.natAbs / T k = Q at *
      generalize hN : m.natAbs = N at *
      have hnd' : nd N - k ≤ 15 ∧ 0 < nd N - k := by omega
      generalize hn : nd N - k = n at *
      have hnN : n ≤ nd N := by omega
      generalize hD : dig N = D at *
      have HTK : Hid (∀ W A, Rd 0 W A (i6 D) → Rd 0 W A (i6 (D.take n))) := fun W A hr => by have := Rd.take hr n; rw [← List.map_take] at this; exact this
      generalize D.take n = hd at *
      have hpl := fun A B ca cb W h1 h2 => plus_any true true A B ca cb hd [1] 0 0 0 0 0 n W h1 h2 (by omega) (by simp) rfl rfl (Or.inl rfl) (by omega) (by omega) hal (AllD.cons (by omega) AllD.nil) (by simp; omega)
      rw [plus_tt, hll, hv] at hpl
      simp only [show T 0 = 1 from rfl, Nat.mul_one, List.length_singleton, show val [1] = 1 from rfl] at hpl
      clear hval hv h hn hD hN
      generalize hRR : rnd true (Q + 1) false 0 = R
      have HRR := Lib.hid hRR
      clear hRR
      go_enter Tryd.func28, Tryd.ntmps28
      go_wp2_with (first | (go_at_call 18; (with_reducible refine (rright_rt _ _ _ (by assumption)).mono ?_); rintro e w' ⟨rfl, hbr⟩; obtain ⟨osr, dr, rfl⟩ := hbr.more) | ((go_at_call 45; (with_reducible refine (hof _).mono ?_); rintro e w' ⟨A, c, rfl, hrd, hcp, hx⟩; obtain ⟨os, d, rfl⟩ := hx.more; have hrd := hrd.mono (Nat.zero_le _); (try rw [more_more] at hrd)); obtain ⟨b, off, rfl, _, _⟩ := Rd.at_ hrd hx0) | (go_at_call 44; (with_reducible refine (hpl _ _ _ _ _ (HTK.out _ _ (Rd.ext hrd (by repeat (first | with_reducible exact Ext.refl _ | with_reducible apply Ext.drew | with_reducible apply Ext.alloc | with_reducible apply Ext.more_)))) (Rd.one_ _ _ (by simp))).mono ?_); rintro e w' ⟨⟨A2, c2, X2, rfl, hrx2, hn2, ha2, hv2, hc2⟩, hx2⟩; obtain ⟨os2, d2, rfl⟩ := hx2.more) | (go_at_call 50; (with_reducible refine (near_any 0 true A2 (n + 1) c2 X2 (Q + 1) 0 false _ hn2 (Rd.swap hrx2 (by simp) (by simp) (Nat.zero_le _)) hc2 (by omega) ha2 hv2 (by omega) (Nat.zero_le _)).mono ?_); rintro e w' ⟨rfl, hx3⟩; obtain ⟨os3, d3, rfl⟩ := hx3.more; rw [HRR.out]))
      exact bodyPost_ret (v := NV (rm R) (re R)) (by simp [results, Tryd.results28, go_sem]; done) rfl ⟨rfl, by repeat (first | with_reducible exact Ext.refl _ | with_reducible apply Ext.drew | with_reducible apply Ext.alloc | with_reducible apply Ext.more_)⟩
    · have hv : m.natAbs / T k = 0 := Nat.div_eq_of_lt ((nd_le_iff _ _).1 (by omega))
      have hpl := fun A B ca cb W h1 h2 => plus_any true true A B ca cb [] [1] 0 0 0 0 0 1 W h1 h2 (by simp) (by simp) rfl rfl (Or.inl rfl) (by omega) (by omega) AllD.nil (AllD.cons (by omega) AllD.nil) (by simp)
      rw [plus_tt] at hpl
      simp only [show T 0 = 1 from rfl, Nat.mul_one, List.length_singleton, List.length_nil, show val [1] = 1 from rfl, val_nil] at hpl
      rw [hv]
      clear hval hv h
      generalize hRR : rnd true (0 + 1) false 0 = R
      have HRR := Lib.hid hRR
      clear hRR
      have hx1 : ¬ (0 < (nd m.natAbs : Int) + ex) := by omega
      generalize nd m.natAbs = n at *
      go_enter Tryd.func28, Tryd.ntmps28
      go_wp2_with (first | (go_at_call 18; (with_reducible refine (rright_rt _ _ _ (by assumption)).mono ?_); rintro e w' ⟨rfl, hbr⟩; obtain ⟨osr, dr, rfl⟩ := hbr.more) | ((go_at_call 45; (with_reducible refine (hof _).mono ?_); rintro e w' ⟨A, c, rfl, hrd, hcp, hx⟩; obtain ⟨os, d, rfl⟩ := hx.more; have hrd := hrd.mono (Nat.zero_le _); (try rw [more_more] at hrd))) | (go_at_call 44; (with_reducible refine (hpl _ _ _ _ _ (Rd.nil _ _ _) (Rd.one_ _ _ (by simp))).mono ?_); rintro e w' ⟨⟨A2, c2, X2, rfl, hrx2, hn2, ha2, hv2, hc2⟩, hx2⟩; obtain ⟨os2, d2, rfl⟩ := hx2.more) | (go_at_call 50; (with_reducible refine (near_any 0 true A2 (1 + 1) c2 X2 (0 + 1) 0 false _ hn2 (Rd.swap hrx2 (by simp) (by simp) (Nat.zero_le _)) hc2 (by omega) ha2 hv2 (by omega) (Nat.zero_le _)).mono ?_); rintro e w' ⟨rfl, hx3⟩; obtain ⟨os3, d3, rfl⟩ := hx3.more; rw [HRR.out]))
      exact bodyPost_ret (v := NV (rm R) (re R)) (by simp [results, Tryd.results28, go_sem]; done) rfl ⟨rfl, by repeat (first | with_reducible exact Ext.refl _ | with_reducible apply Ext.drew | with_reducible apply Ext.alloc | with_reducible apply Ext.more_)⟩
  · have hfl : floorN m k = m.natAbs / T k := by unfold floorN; rw [if_neg hneg]
    have hng : decide (m < 0) = false := by simp [hneg]
    rw [hfl, hng]
    rw [hng] at hof
    by_cases hpos : k < nd m.natAbs
    · have hv : val ((dig m.natAbs).take (nd m.natAbs - k)) = m.natAbs / T k := by rw [hval.1]; congr 2; omega
      have hll : ((dig m.natAbs).take (nd m.natAbs - k)).length = nd m.natAbs - k := by rw [List.length_take, hdl]; omega
      have hal := hdall.take (nd m.natAbs - k)
      have hx1 : ((nd m.natAbs : Int) + ex) = ((nd m.natAbs - k : Nat) : Int) := by omega
      obtain ⟨x0, hx0⟩ : ∃ x, (dig m.natAbs)[0]? = some x := ⟨(dig m.natAbs)[0]'(by rw [hdl]; omega), by rw [List.getElem?_eq_getElem]⟩
      generalize m.natAbs / T k = Q at *
      generalize hN : m.natAbs = N at *
      have hnd' : nd N - k ≤ 15 ∧ 0 < nd N - k := by omega
      generalize hn : nd N - k = n at *
      have hnN : n ≤ nd N := by omega
      generalize hD : dig N = D at *
      have HTK : Hid (∀ W A, Rd 0 W A (i6 D) → Rd 0 W A (i6 (D.take n))) := fun W A hr => by have := Rd.take hr n; rw [← List.map_take] at this; exact this
      generalize D.take n = hd at *
      clear hval h hn hD hN
      generalize hRR : rnd false Q false 0 = R
      have HRR := Lib.hid hRR
      clear hRR
      have hng' : ¬ m < 0 := hneg
      go_enter Tryd.func28, Tryd.ntmps28
      go_wp2_with (first | (go_at_call 18; (with_reducible refine (rright_rt _ _ _ (by assumption)).mono ?_); rintro e w' ⟨rfl, hbr⟩; obtain ⟨osr, dr, rfl⟩ := hbr.more) | ((go_at_call 45; (with_reducible refine (hof _).mono ?_); rintro e w' ⟨A, c, rfl, hrd, hcp, hx⟩; obtain ⟨os, d, rfl⟩ := hx.more; have hrd := hrd.mono (Nat.zero_le _); (try rw [more_more] at hrd)); obtain ⟨b, off, rfl, _, _⟩ := Rd.at_ hrd hx0) | (go_at_call 50; (with_reducible refine (near_any 0 false _ n c hd Q 0 false _ hll (HTK.out _ _ (Rd.ext hrd (by repeat (first | with_reducible exact Ext.refl _ | with_reducible apply Ext.drew | with_reducible apply Ext.alloc | with_reducible apply Ext.more_)))) (by omega) (by omega) hal hv (by omega) (Nat.zero_le _)).mono ?_); rintro e w' ⟨rfl, hx3⟩; obtain ⟨os3, d3, rfl⟩ := hx3.more; rw [HRR.out]))
      exact bodyPost_ret (v := NV (rm R) (re R)) (by simp [results, Tryd.results28, go_sem]; done) rfl ⟨rfl, by repeat (first | with_reducible exact Ext.refl _ | with_reducible apply Ext.drew | with_reducible apply Ext.alloc | with_reducible apply Ext.more_)⟩
    · have hv : m.natAbs / T k = 0 := Nat.div_eq_of_lt ((nd_le_iff _ _).1 (by omega))
      rw [hv]
      clear hval hv h
      generalize hRR : rnd false 0 false 0 = R
      have HRR := Lib.hid hRR
      clear hRR
      have hx1 : ¬ (0 < (nd m.natAbs : Int) + ex) := by omega
      generalize nd m.natAbs = n at *
      go_enter Tryd.func28, Tryd.ntmps28
      go_wp2_with (first | (go_at_call 18; (with_reducible refine (rright_rt _ _ _ (by assumption)).mono ?_); rintro e w' ⟨rfl, hbr⟩; obtain ⟨osr, dr, rfl⟩ := hbr.more) | ((go_at_call 45; (with_reducible refine (hof _).mono ?_); rintro e w' ⟨A, c, rfl, hrd, hcp, hx⟩; obtain ⟨os, d, rfl⟩ := hx.more; have hrd := hrd.mono (Nat.zero_le _); (try rw [more_more] at hrd))) | (go_at_call 50; (with_reducible refine (near_any 0 false none 0 0 [] 0 0 false _ rfl (Rd.nil _ _ _) (by omega) (by omega) AllD.nil rfl (by omega) (Nat.zero_le _)).mono ?_); rintro e w' ⟨rfl, hx3⟩; obtain ⟨os3, d3, rfl⟩ := hx3.more; rw [HRR.out]))
      exact bodyPost_ret (v := NV (rm R) (re R)) (by simp [results, Tryd.results28, go_sem]; done) rfl ⟨rfl, by repeat (first | with_reducible exact Ext.refl _ | with_reducible apply Ext.drew | with_reducible apply Ext.alloc | with_reducible apply Ext.more_)⟩
theorem floorN_nd {m e : Int} {k : Nat} (h : Rt m e) (hk : 0 < k) : nd (floorN m k) ≤ 15 := by
  obtain ⟨b1, _, _⟩ := Rt_bd h
  have hT15 : T 15 = 1000000000000000 := by decide
  have h1 : m.natAbs / T k ≤ m.natAbs / T 1 := Nat.div_le_div_left (T_mono hk) (T_pos 1)
  have h2 : T 1 = 10 := by decide
  rw [h2] at h1
  rw [nd_le_iff]
  unfold floorN
  split <;> omega
set_option maxHeartbeats 1000000 in
theorem rfloor_any (m ex : Int) (w : World) (hm : I64 m) :
    Calls Tryd.prog 28 #[NV m ex] w fun e w' => e = .returned (NV (floorS m ex).1 (floorS m ex).2) ∧ Ext w w' := by
  have hz := fun W => zero_any m ex W hm
  by_cases h : Rt m ex
  · rw [if_pos h, if_pos h] at hz
    by_cases h0 : 0 ≤ ex
    · have hs : floorS m ex = (m, ex) := by unfold floorS; rw [if_neg (by simpa using h), if_pos h0]
      rw [hs]
      have r1 := rtB_yes h
      clear h hs
      go_enter Tryd.func28, Tryd.ntmps28
      go_wp2_with (first | (go_at_call 18; (with_reducible refine (rright_rt _ _ _ (by assumption)).mono ?_); rintro e w' ⟨rfl, hbr⟩; obtain ⟨osr, dr, rfl⟩ := hbr.more) | (go_at_call 61; (with_reducible refine (hz _).mono ?_); rintro e w' ⟨rfl, hx3⟩; obtain ⟨os3, d3, rfl⟩ := hx3.more))
      exact bodyPost_ret (v := NV m ex) (by simp [results, Tryd.results28, go_sem]; done) rfl ⟨rfl, by repeat (first | with_reducible exact Ext.refl _ | with_reducible apply Ext.drew | with_reducible apply Ext.alloc | with_reducible apply Ext.more_)⟩
    · obtain ⟨k, hk⟩ : ∃ k : Nat, -ex = (k : Int) := ⟨(-ex).toNat, by omega⟩
      have hs : floorS m ex = (rm (rnd (decide (m < 0)) (floorN m k) false 0), re (rnd (decide (m < 0)) (floorN m k) false 0)) := by
        unfold floorS
        rw [if_neg (by simpa using h), if_neg h0, hk, fin_whole (floorN_nd h (by omega))]; rfl
      rw [hs]
      exact rfloor_yes m ex k w h (by omega) hk
  · rw [if_neg h, if_neg h] at hz
    have hs : floorS m ex = (0, 0) := by unfold floorS; rw [if_pos h]
    rw [hs]
    have r1 := rtB_no h
    clear h hs
    go_enter Tryd.func28, Tryd.ntmps28
    go_wp2_with (first | (go_at_call 18; (with_reducible refine (rright_rt _ _ _ (by assumption)).mono ?_); rintro e w' ⟨rfl, hbr⟩; obtain ⟨osr, dr, rfl⟩ := hbr.more) | (go_at_call 61; (with_reducible refine (hz _).mono ?_); rintro e w' ⟨rfl, hx3⟩; obtain ⟨os3, d3, rfl⟩ := hx3.more))
    exact bodyPost_ret (v := NV 0 0) (by simp [results, Tryd.results28, go_sem]; done) rfl ⟨rfl, by repeat (first | with_reducible exact Ext.refl _ | with_reducible apply Ext.drew | with_reducible apply Ext.alloc | with_reducible apply Ext.more_)⟩
end Go.Proofs.YtihfiegopnjeiaaDoor
