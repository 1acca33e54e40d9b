/- counterpaneref01.Of by digits, Zero, Round. -/
import Derived.Test.YtihfiegopnjeiaaDoorPlus
import Derived.Test.YtihfiegopnjeiaaDoorNMakes
import Derived.Test.YtihfiegopnjeiaaDoorFloor
namespace Go.Proofs.YtihfiegopnjeiaaDoor
set_option linter.unusedSimpArgs false
set_option linter.unusedVariables false
open Go.RowKit NM

/-- A number's exact value, in Nat digits. -/
theorem rof_any (m ex : Int) (w : World) (h : I64 m) :
    Calls Tryd.prog 45 #[NV m ex] w fun e w' => ∃ A c, e = .returned (DecV (decide (m < 0)) A (nd m.natAbs) c ex) ∧ Rd w.heap.size w' A (i6 (dig m.natAbs)) ∧ nd m.natAbs ≤ c ∧ Ext w w' := by
  have hl : (digsI m).length = nd m.natAbs := by unfold digsI; rw [List.length_map, digs_dig, dig_length]
  refine (refOf_any m ex w h).mono fun e w' ⟨A, c, h1, h2, h3, h4⟩ => ⟨A, c, ?_, h2.i6_, by omega, h3⟩
  rw [← hl]; exact h1
set_option maxHeartbeats 1000000 in
theorem zero_any (m ex : Int) (w : World) (hm : I64 m) :
    Calls Tryd.prog 61 #[NV m ex] w fun e w' => e = .returned (NV (if Rt m ex then m else 0) (if Rt m ex then ex else 0)) ∧ Ext w w' := by
  by_cases h : Rt m ex
  · have r1 := rtB_yes h
    rw [if_pos h, if_pos h]
    clear h
    go_enter Tryd.func61, Tryd.ntmps61
    go_wp2_with (go_at_call 18; (with_reducible refine (rright_rt _ _ _ (by assumption)).mono ?_); rintro e w' ⟨rfl, hbr⟩; obtain ⟨osr, dr, rfl⟩ := hbr.more)
    exact bodyPost_ret (v := NV m ex) (by simp [results, Tryd.results61, go_sem]; done) rfl ⟨rfl, by repeat (first | with_reducible exact Ext.refl _ | with_reducible apply Ext.drew | with_reducible apply Ext.alloc | with_reducible apply Ext.more_)⟩
  · have r1 := rtB_no h
    rw [if_neg h, if_neg h]
    clear h
    go_enter Tryd.func61, Tryd.ntmps61
    go_wp2_with (go_at_call 18; (with_reducible refine (rright_rt _ _ _ (by assumption)).mono ?_); rintro e w' ⟨rfl, hbr⟩; obtain ⟨osr, dr, rfl⟩ := hbr.more)
    exact bodyPost_ret (v := NV 0 0) (by simp [results, Tryd.results61, go_sem]; done) rfl ⟨rfl, by repeat (first | with_reducible exact Ext.refl _ | with_reducible apply Ext.drew | with_reducible apply Ext.alloc | with_reducible apply Ext.more_)⟩
theorem cutUp_dig {N k r0 : Nat} (hk : 0 < k) (hkn : k ≤ nd N) (hr : (dig N)[nd N - k]? = some r0) : cutUp N k = val ((dig N).take (nd N - k)) + if 5 ≤ r0 then 1 else 0 := by
  have hd := dig_all N
  obtain ⟨h1, h2⟩ := take_val hd (nd N - k)
  rw [val_dig, dig_length, show nd N - (nd N - k) = k by omega] at h1 h2
  rw [drop_at hr, val_cons] at h2
  have hlen : ((dig N).drop (nd N - k + 1)).length = k - 1 := by rw [List.length_drop, dig_length]; omega
  have hv := val_lt (hd.drop (nd N - k + 1))
  rw [hlen] at h2 hv
  have hT : T k = 10 * T (k - 1) := by rw [← T_succ]; congr 1; omega
  unfold cutUp
  rw [← h1, ← h2, hT]
  generalize val ((dig N).take (nd N - k)) = q at *
  generalize val ((dig N).drop (nd N - k + 1)) = v at *
  generalize T (k - 1) = t at *
  by_cases h5 : 5 ≤ r0
  · have := Nat.mul_le_mul_right t h5
    rw [if_pos h5, if_pos (by omega)]
  · have := Nat.mul_le_mul_right t (show r0 + 1 ≤ 5 by omega)
    rw [Nat.add_mul, Nat.one_mul] at this
    rw [if_neg h5, if_neg (by omega)]; rfl
theorem rnd_small {neg : Bool} {N : Nat} {E : Int} (h : nd N ≤ 15) (hE : -40 ≤ E) : rnd neg N false E = fin neg N E := by
  rw [rnd_fin]
  unfold n2 n1 e2
  rw [show nd N - 15 = 0 by omega, cutN_zero, show (-40 - (E + ((0 : Nat) : Int))).toNat = 0 by omega, cutN_zero, show max (E + ((0 : Nat) : Int)) (-40) = E by omega]
set_option maxRecDepth 100000 in
set_option maxHeartbeats 4000000 in
theorem rround_yes (m ex p : Int) (k : Nat) (w : World) (h : Rt m ex) (hp1 : -40 ≤ p) (hp2 : p ≤ 40) (hp3 : ex < -p) (hkk : -p - ex = (k : Int)) (hkn : k ≤ nd m.natAbs) :
    Calls Tryd.prog 26 #[NV m ex, .int .i64 p] w fun e w' => e = .returned (NV ((fin (decide (m < 0)) (cutUp m.natAbs k) (-p)).getD (m, ex)).1 ((fin (decide (m < 0)) (cutUp m.natAbs k) (-p)).getD (m, ex)).2) ∧ Ext w w' := by
  obtain ⟨b1, b2, b3⟩ := Rt_bd h
  have hm : I64 m := by unfold I64; omega
  have r1 := rtB_yes h
  have hk1 : 0 < k := by omega
  have hT15 : T 15 = 1000000000000000 := by decide
  have hnd : nd m.natAbs ≤ 15 := (nd_le_iff _ _).2 (by omega)
  obtain ⟨r0, hr0⟩ : ∃ r0, (dig m.natAbs)[nd m.natAbs - k]? = some r0 := ⟨(dig m.natAbs)[nd m.natAbs - k]'(by rw [dig_length]; omega), by rw [List.getElem?_eq_getElem]⟩
  have hcd := cutUp_dig hk1 hkn hr0
  have hof := fun W => rof_any m ex W hm
  have hfin : fin (decide (m < 0)) (cutUp m.natAbs k) (-p) = rnd (decide (m < 0)) (cutUp m.natAbs k) false (-p) := by
    rw [rnd_small ?_ (by omega)]
    rw [nd_le_iff]
    have h1 : m.natAbs / T k ≤ m.natAbs / T 1 := Nat.div_le_div_left (T_mono hk1) (T_pos 1)
    have h2 : T 1 = 10 := by decide
    rw [h2] at h1
    have h3 : cutUp m.natAbs k ≤ m.natAbs / T k + 1 := by unfold cutUp; split <;> omega
    omega
  rw [hfin]
  have hdl := dig_length m.natAbs
  have hdall := dig_all m.natAbs
  obtain ⟨n, hn⟩ : ∃ n, nd m.natAbs - k = n := ⟨_, rfl⟩
  rw [hn] at hr0 hcd
  have hnk : n + k = nd m.natAbs := by omega
  have hr10 : r0 < 10 := hdall.at hr0
  have hnl := lt_at hr0
  generalize cutUp m.natAbs k = C at *
  generalize hN : m.natAbs = N at *
  generalize hD : dig N = D at *
  have hhd : (D.take n).length = n := by rw [List.length_take]; omega
  have hal : AllD (0 :: D.take n) := AllD.cons (by omega) (hdall.take n)
  generalize hHD : D.take n = hd at *
  have w5 : wrap64 (-p) = -p := IntWalk.wrap64_in _ (by omega)
  have w6 : IntKind.i64.wrap (-p) = -p := i64w (by omega) (by omega)
  have w7 : IntKind.i64.wrap (-p - ex) = -p - ex := i64w (by omega) (by omega)
  obtain ⟨i0, hi, hz0, hz1, hz2⟩ := info_parts info_int_
  have HM := Lib.hid hhd
  have HCD := Lib.hid hcd
  have HR0 := Lib.hid hr0
  have HHD := Lib.hid hHD
  have HAL := Lib.hid hal
  clear hcd hfin hhd hr0 hHD hal hT15
  generalize hRR : rnd (decide (m < 0)) C false (-p) = R
  have HRR := Lib.hid hRR
  clear hRR
  go_enter Tryd.func26, Tryd.ntmps26
  go_upto_region 9 with (first | (go_at_call 18; (with_reducible refine (rright_rt _ _ _ (by assumption)).mono ?_); rintro e w' ⟨rfl, hbr⟩; obtain ⟨osr, dr, rfl⟩ := hbr.more) | (go_at_call 45; (with_reducible refine (hof _).mono ?_); rintro e w' ⟨A, c, rfl, hrd, hcp, hx⟩; obtain ⟨os, d, rfl⟩ := hx.more))
  refine wp_world fun X hX => ?_
  have hrd2 : Rd 0 X A (i6 D) := by rw [hX]; exact (Rd.ext hrd (by rw [more_more]; exact by repeat (first | with_reducible exact Ext.refl _ | with_reducible apply Ext.drew | with_reducible apply Ext.alloc | with_reducible apply Ext.more_))).mono (Nat.zero_le _)
  have hxX : Ext w X := by rw [hX]; exact by repeat (first | with_reducible exact Ext.refl _ | with_reducible apply Ext.drew | with_reducible apply Ext.alloc | with_reducible apply Ext.more_)
  have hsX : X.heap.size = w.heap.size + 1 + 1 + (osr.size + os.size) + 1 := by rw [hX]; simp
  have a0 : X.cell? ⟨w.heap.size, 0, none⟩ = some (.int .i64 m) := by rw [hX]; go_simp
  have a1 : X.cell? ⟨w.heap.size, 1, none⟩ = some (.int .i64 ex) := by rw [hX]; go_simp
  have q0 : X.cell? ⟨w.heap.size + 1, 0, none⟩ = some (.int .i64 0) := by rw [hX]; go_simp
  have q1 : X.cell? ⟨w.heap.size + 1, 1, none⟩ = some (.int .i64 0) := by rw [hX]; go_simp
  have f0 : X.frozen? ⟨w.heap.size + 1, 0, none⟩ = false := by rw [hX]; go_simp
  have f1 : X.frozen? ⟨w.heap.size + 1, 1, none⟩ = false := by rw [hX]; go_simp
  have v0 : X.cell? ⟨w.heap.size + 1 + 1 + (osr.size + os.size), 0, none⟩ = some (.bool (decide (m < 0))) := by rw [hX]; go_simp
  have v1 : X.cell? ⟨w.heap.size + 1 + 1 + (osr.size + os.size), 1, none⟩ = some (.slice A (nd N) c) := by rw [hX]; go_simp
  have hVX : w.heap.size + 1 + 1 + (osr.size + os.size) < X.heap.size := by omega
  have hA1 : w.heap.size + 1 < X.heap.size := by omega
  have hA0 : w.heap.size < X.heap.size := by omega
  clear hX hrd hx hsX
  generalize w.heap.size + 1 + 1 + (osr.size + os.size) = V at *
  obtain ⟨b, off, rfl, _, hcr0⟩ := Rd.at_ hrd2 HR0.out
  have HRD := Lib.hid hrd2
  clear hrd2
  go_upto_if 61 with (at_builtin; refine wpList_append_own _ rfl _ _ _ rfl X.heap.size 3 i0 (.int .i64 0) 1 8 Tryd.underlying43 hi hz0 hz1 hz2 rfl (by decide) _ 1 [.int .i64 0] rfl (new_own _ rfl (Nat.le_refl _)) _ n c (i6 hd) rfl (by simp [HM.out]) (Rd.add (Rd.mono (Rd.ext (by have := Rd.take HRD.out n; rw [← List.map_take, HHD.out] at this; exact this) ((Ext.refl _).alloc _)) (Nat.zero_le _))) (one_i6 _) (by simp [maxLen]; omega) (by omega) (by simp) ?_; intro v3 w3 ho3 hg3 hiff; clear hiff; have hx3 := ext_grown ((Ext.refl X).alloc _) (new_own _ rfl (Nat.le_refl _)) hg3; obtain ⟨A3, c3, rfl, hk3⟩ := keep_own HM.out ho3; clear ho3 hg3; have v1' := hx3.cell_some v1; have cr' := hx3.cell_some hcr0)
  have HK3 := Lib.hid hk3
  clear hk3 v1' cr'
  go_cut [7] (fun s7 wx => s7 = .slice A3 (1 + n) c3 ∧ Ext X wx ∧ Hid (∃ l', Dg .i64 3 X.heap.size wx A3 c3 l' ∧ l'.length = 1 + n ∧ AllD l' ∧ val l' = C))
  case first =>
    by_cases h5 : 5 ≤ r0
    · have HC : Hid (C = val hd + 1) := by show _ = _; rw [HCD.out, if_pos h5]
      obtain ⟨b3, o3, rfl, hb3, _, _⟩ := HK3.out.at (i := 0) (d := 0) rfl
      clear HCD
      go_wp2_with fail
      go_loopw [8] (fun i wr => ∃ j : Nat, j ≤ n ∧ i = .int .i64 (j : Int) ∧ Hid (0 :: hd = (0 :: hd).take (j + 1) ++ List.replicate (n - j) 9) ∧ Hid (Dg .i64 3 X.heap.size wr (some ⟨b3, o3, none⟩) c3 ((0 :: hd).take (j + 1) ++ List.replicate (n - j) 0)) ∧ Ext X wr) (fun i _ => (intOf i).toNat)
      case atStart => exact ⟨n, Nat.le_refl _, by go_num, by show _ = _; rw [← HM.out]; simp, by show Dg _ _ _ _ _ _ _; rw [Nat.sub_self, ← HM.out]; simpa using HK3.out, hx3⟩
      case round =>
        obtain ⟨j, hj, rfl, HE, HW, hxr⟩ := hrel
        obtain ⟨dd, hdj⟩ : ∃ d, (0 :: hd)[j]? = some d := ⟨(0 :: hd)[j]'(by have := HM.out; simp; omega), by rw [List.getElem?_eq_getElem]⟩
        have hd10 : dd < 10 := HAL.out.at hdj
        obtain ⟨b', off', hA', _, hcj, hfj⟩ := HW.out.at (i := j) (d := dd) (by rw [List.getElem?_append_left (by have := HM.out; simp; omega), List.getElem?_take_of_lt (by omega)]; exact hdj)
        simp only [Option.some.injEq, Addr.mk.injEq, and_true] at hA'
        obtain ⟨rfl, rfl⟩ := hA'
        have HJ := Lib.hid hdj
        clear hdj
        by_cases h9 : dd = 9
        · have e9 : ((dd : Int) == 9) = true := by simp; omega
          have hj0 : 1 ≤ j := by
            rcases Nat.eq_zero_or_pos j with h0 | h0
            · have := HJ.out; rw [h0] at this; simp at this; omega
            · exact h0
          have HD9 := Lib.hid h9
          clear h9
          go_wp2_with fail
          have hst := HW.out.set (i := j) (d := 0) (by have := HM.out; simp; omega)
          rw [set_at _ HJ.out] at hst
          have hj1 : j - 1 + 1 = j := by omega
          have hnj : n - (j - 1) = n - j + 1 := by omega
          refine ⟨⟨j - 1, by omega, by congr 1; omega, ?_, ?_, hxr.set _ hb3⟩, by simp [intOf]; omega⟩
          · show _ = _
            rw [hj1, hnj, List.replicate_succ]
            have he := HE.out
            rw [take_at HJ.out, List.append_assoc, List.singleton_append, HD9.out] at he
            exact he
          · show Dg _ _ _ _ _ _ _
            rw [hj1, hnj, List.replicate_succ]; exact hst
        · have e9 : ((dd : Int) == 9) = false := by simp; omega
          have hst := HW.out.set (i := j) (d := dd + 1) (by have := HM.out; simp; omega)
          rw [set_at _ HJ.out, show ((dd + 1 : Nat) : Int) = (dd : Int) + 1 by omega] at hst
          have HST := Lib.hid hst
          clear hst
          go_wp2_with fail
          go_meet
          refine ⟨rfl, hxr.set _ hb3, _, HST.out, by have := HM.out; simp; omega, (HAL.out.take j).append (AllD.cons (by omega) (AllD.rep _ _ (by omega))), ?_⟩
          rw [HC.out, val_incr]
          have he := HE.out
          rw [take_at HJ.out, List.append_assoc, List.singleton_append] at he
          rw [← he, val_cons]; omega
    · have HC : Hid (C = val hd) := by show _ = _; rw [HCD.out, if_neg h5]; rfl
      clear HCD
      go_wp2_with fail
      go_meet
      exact ⟨rfl, hx3, 0 :: hd, HK3.out, by have := HM.out; simp; omega, HAL.out, by rw [HC.out, val_cons]; omega⟩
  case rest =>
    obtain ⟨rfl, hxc, HL⟩ := hcut
    obtain ⟨l', hdg, hll, hla, hlv⟩ := HL.out
    have hnr := near_any X.heap.size (decide (m < 0)) A3 (1 + n) c3 l' C (-p) false wc hll hdg.rd (by have := hdg.1; omega) (by omega) hla hlv (by omega) hxc.size
    have v0' := hxc.cell_some v0
    have a0' := hxc.cell_some a0
    have a1' := hxc.cell_some a1
    have q0' := hxc.cell_some q0
    have q1' := hxc.cell_some q1
    have f0' := (hxc.frozen (p := ⟨w.heap.size + 1, 0, none⟩) hA1).trans f0
    have f1' := (hxc.frozen (p := ⟨w.heap.size + 1, 1, none⟩) hA1).trans f1
    have hsc := hxc.size
    have hz1' : w.heap.size + 1 < wc.heap.size := by omega
    have hz0' : w.heap.size < wc.heap.size := by omega
    have hxw : Ext w wc := hxX.trans hxc
    clear hdg hll hla hlv hx3 HK3
    rw [HRR.out] at hnr
    clear HRR
    cases R with
    | none =>
      go_wp2_with (go_at_call 50; (with_reducible refine hnr.mono ?_); rintro e w' ⟨rfl, hx⟩; obtain ⟨os2, d2, rfl⟩ := hx.more)
      exact bodyPost_ret (v := NV m ex) (by simp [results, Tryd.results26, go_sem, hz1', q0', q1']; done) rfl ⟨rfl, (((hxw.set _ (Nat.le_succ _)).set _ (Nat.le_succ _)).more_ _ _).alloc _⟩
    | some r =>
      go_wp2_with (go_at_call 50; (with_reducible refine hnr.mono ?_); rintro e w' ⟨rfl, hx⟩; obtain ⟨os2, d2, rfl⟩ := hx.more)
      exact bodyPost_ret (v := NV r.1 r.2) (by simp [results, Tryd.results26, go_sem, hz1', q0', q1', rm, re]; done) rfl ⟨rfl, (((hxw.set _ (Nat.le_succ _)).set _ (Nat.le_succ _)).more_ _ _).alloc _⟩
set_option maxRecDepth 100000 in
set_option maxHeartbeats 4000000 in
theorem rround_any (m ex p : Int) (w : World) (hm : I64 m) (hp : I64 p) :
    Calls Tryd.prog 26 #[NV m ex, .int .i64 p] w fun e w' => e = .returned (NV (roundS m ex p).1 (roundS m ex p).2) ∧ Ext w w' := by
  by_cases h : Rt m ex
  · have r1 := rtB_yes h
    obtain ⟨b1, b2, b3⟩ := Rt_bd h
    by_cases h1 : p < -100
    · have hs : roundS m ex p = (0, 0) := by unfold roundS; rw [if_pos (Or.inr (by omega))]
      rw [hs]
      clear h hs
      go_enter Tryd.func26, Tryd.ntmps26
      go_wp2_with (go_at_call 18; (with_reducible refine (rright_rt _ _ _ (by assumption)).mono ?_); rintro e w' ⟨rfl, hbr⟩; obtain ⟨osr, dr, rfl⟩ := hbr.more)
      exact bodyPost_ret (v := NV 0 0) (by simp [results, Tryd.results26, go_sem]; done) rfl ⟨rfl, by repeat (first | with_reducible exact Ext.refl _ | with_reducible apply Ext.drew | with_reducible apply Ext.alloc | with_reducible apply Ext.more_)⟩
    · by_cases h2 : 40 < p
      · have hs : roundS m ex p = (m, ex) := by unfold roundS; rw [if_neg (by rintro (h3 | h3); exact h3 h; omega), if_pos (Or.inl (by omega))]
        rw [hs]
        clear h hs
        go_enter Tryd.func26, Tryd.ntmps26
        go_wp2_with (go_at_call 18; (with_reducible refine (rright_rt _ _ _ (by assumption)).mono ?_); rintro e w' ⟨rfl, hbr⟩; obtain ⟨osr, dr, rfl⟩ := hbr.more)
        exact bodyPost_ret (v := NV m ex) (by simp [results, Tryd.results26, go_sem]; done) rfl ⟨rfl, by repeat (first | with_reducible exact Ext.refl _ | with_reducible apply Ext.drew | with_reducible apply Ext.alloc | with_reducible apply Ext.more_)⟩
      · have w5 : wrap64 (-p) = -p := IntWalk.wrap64_in _ (by omega)
        have w6 : IntKind.i64.wrap (-p) = -p := i64w (by omega) (by omega)
        by_cases h3 : -p ≤ ex
        · have hs : roundS m ex p = (m, ex) := by unfold roundS; rw [if_neg (by rintro (h4 | h4); exact h4 h; omega), if_pos (Or.inr h3)]
          rw [hs]
          clear h hs
          go_enter Tryd.func26, Tryd.ntmps26
          go_wp2_with (go_at_call 18; (with_reducible refine (rright_rt _ _ _ (by assumption)).mono ?_); rintro e w' ⟨rfl, hbr⟩; obtain ⟨osr, dr, rfl⟩ := hbr.more)
          exact bodyPost_ret (v := NV m ex) (by simp [results, Tryd.results26, go_sem]; done) rfl ⟨rfl, by repeat (first | with_reducible exact Ext.refl _ | with_reducible apply Ext.drew | with_reducible apply Ext.alloc | with_reducible apply Ext.more_)⟩
        · obtain ⟨k, hk⟩ : ∃ k : Nat, -p - ex = (k : Int) := ⟨(-p - ex).toNat, by omega⟩
          have hnd : nd m.natAbs ≤ 15 := (nd_le_iff _ _).2 (by have : T 15 = 1000000000000000 := by decide
                                                               omega)
          by_cases hkn : k ≤ nd m.natAbs
          · have hp40 : -40 ≤ p := by
              rcases h with ⟨h5, h6⟩ | ⟨_, _, _, _, h6⟩
              · rw [h5, show (0 : Int).natAbs = 0 from rfl, nd_zero] at hkn; omega
              · omega
            have hs : roundS m ex p = (fin (decide (m < 0)) (cutUp m.natAbs k) (-p)).getD (m, ex) := by
              unfold roundS
              rw [if_neg (by rintro (h4 | h4); exact h4 h; omega), if_neg (by omega), hk]; rfl
            rw [hs]
            exact rround_yes m ex p k w h hp40 (by omega) (by omega) hk hkn
          · have hs : roundS m ex p = (0, 0) := by
              unfold roundS
              by_cases h40 : p < -40
              · rw [if_pos (Or.inr h40)]
              · rw [if_neg (by rintro (h4 | h4); exact h4 h; omega), if_neg (by omega), hk, Int.toNat_natCast, cutUp_far (by omega), fin_zero]; rfl
            rw [hs]
            have hof := fun W => rof_any m ex W hm
            have w7 : IntKind.i64.wrap (-p - ex) = -p - ex := i64w (by omega) (by omega)
            clear h hs
            go_enter Tryd.func26, Tryd.ntmps26
            go_wp2_with (first | (go_at_call 18; (with_reducible refine (rright_rt _ _ _ (by assumption)).mono ?_); rintro e w' ⟨rfl, hbr⟩; obtain ⟨osr, dr, rfl⟩ := hbr.more) | (go_at_call 45; (with_reducible refine (hof _).mono ?_); rintro e w' ⟨A, c, rfl, hrd, hcp, hx⟩; obtain ⟨os, d, rfl⟩ := hx.more))
            exact bodyPost_ret (v := NV 0 0) (by simp [results, Tryd.results26, go_sem]; done) rfl ⟨rfl, by repeat (first | with_reducible exact Ext.refl _ | with_reducible apply Ext.drew | with_reducible apply Ext.alloc | with_reducible apply Ext.more_)⟩
  · have r1 := rtB_no h
    have hs : roundS m ex p = (0, 0) := by unfold roundS; rw [if_pos (Or.inl h)]
    rw [hs]
    clear h hs
    go_enter Tryd.func26, Tryd.ntmps26
    go_wp2_with (go_at_call 18; (with_reducible refine (rright_rt _ _ _ (by assumption)).mono ?_); rintro e w' ⟨rfl, hbr⟩; obtain ⟨osr, dr, rfl⟩ := hbr.more)
    exact bodyPost_ret (v := NV 0 0) (by simp [results, Tryd.results26, go_sem]; done) rfl ⟨rfl, by repeat (first | with_reducible exact Ext.refl _ | with_reducible apply Ext.drew | with_reducible apply Ext.alloc | with_reducible apply Ext.more_)⟩
end Go.Proofs.YtihfiegopnjeiaaDoor
