/- counterpaneref01.Near. -/
import Derived.Test.YtihfiegopnjeiaaDoorRStrip
namespace Go.Proofs.YtihfiegopnjeiaaDoor
set_option linter.unusedSimpArgs false
set_option linter.unusedVariables false
open Go.RowKit NM
/-- The world with blocks behind (the name 'more' is taken by a parameter). -/
abbrev moreW := @more

/-- A value of type Dec. -/
abbrev DecV (neg : Bool) (A : Option Addr) (len cap : Nat) (ex : Int) : Value := .agg #[.bool neg, .slice A len cap, .int .i64 ex]
def NSt (base : Nat) (W0 : World) (M : Nat) (E : Int) (s6 s7 : Value) (wx : World) : Prop :=
  ∃ A1 c1 E', s6 = .slice A1 (nd M) c1 ∧ s7 = .int .i64 E' ∧ (M ≠ 0 → E' = E) ∧ -2000000 ≤ E' ∧ E' ≤ 2000000 ∧ Rd base wx A1 (i6 (dig M)) ∧ nd M ≤ c1 ∧ Ext W0 wx
theorem nd_n1 (N : Nat) (more : Bool) : nd (n1 N more) ≤ 16 := (nd_le_iff _ 16).2 (Nat.lt_of_le_of_lt (n1_le N more) (T_lt (by omega)))
theorem nd_n2 (N : Nat) (more : Bool) (e : Int) : nd (n2 N more e) ≤ 16 := (nd_le_iff _ 16).2 (Nat.lt_of_le_of_lt (n2_le N more e) (T_lt (by omega)))
theorem n2_of_n1_zero {N : Nat} {more : Bool} {e : Int} (h : n1 N more = 0) : n2 N more e = 0 := by
  unfold n2; rw [h]; exact cutN_false_zero _

/-- What the loop that leaves out noughts at the end keeps. -/
def NRel (M2 : Nat) (E2 : Int) (M : Nat) (E' : Int) : Prop := M = 0 ∧ M2 = 0 ∨ M ≠ 0 ∧ M2 ≠ 0 ∧ trim M E' = trim M2 E2 ∧ (nd M : Int) + E' = nd M2 + E2 ∧ M ≤ M2
theorem NRel.step {M2 : Nat} {E2 : Int} {M : Nat} {E' : Int} (h : NRel M2 E2 M E') (h0 : M ≠ 0) (h1 : M % 10 = 0) : NRel M2 E2 (M / 10) (E' + 1) := by
  rcases h with ⟨h2, _⟩ | ⟨_, h3, h4, h5, h6⟩
  · exact absurd h2 h0
  · right
    refine ⟨by omega, h3, ?_, ?_, by omega⟩
    · rw [← h4, trim_ten E' h0 h1]
    · rw [nd_pos h0] at h5; omega
theorem dig_last {M : Nat} (h : M ≠ 0) : (dig M)[nd M - 1]? = some (M % 10) := by
  rw [dig_pos h, nd_pos h, Nat.add_sub_cancel, ← dig_length (M / 10), List.getElem?_append_right (Nat.le_refl _), Nat.sub_self]; rfl
theorem dig_init {M : Nat} (h : M ≠ 0) : (dig M).take (nd M - 1) = dig (M / 10) := by
  rw [dig_pos h, nd_pos h, Nat.add_sub_cancel, ← dig_length (M / 10), List.take_left]
set_option maxRecDepth 100000 in
set_option maxHeartbeats 4000000 in
theorem near_any (base : Nat) (neg : Bool) (A : Option Addr) (len cap : Nat) (l : List Nat) (N : Nat) (ex : Int) (more : Bool) (w : World) (hlen : l.length = len) (h : Rd base w A (i6 l)) (hcp : len ≤ cap) (hbig : len ≤ 1000) (hall : AllD l) (hv : val l = N) (he : -1000000 ≤ ex ∧ ex ≤ 1000000) (hb : base ≤ w.heap.size) :
    Calls Tryd.prog 50 #[DecV neg A len cap ex, .bool more] w fun e w' => e = .returned (rnV (rnd neg N more ex)) ∧ Ext w w' := by
  have hx0 : Ext w ((w.alloc (.cells #[.bool neg, .slice A len cap, .int .i64 ex] 45)).alloc (.cells #[.int .i64 0, .int .i64 0] 24)) := by repeat (first | exact Ext.refl _ | apply Ext.drew | apply Ext.alloc | apply Ext.more_)
  have hst := rstrip_dig base A cap len l N ((w.alloc (.cells #[.bool neg, .slice A len cap, .int .i64 ex] 45)).alloc (.cells #[.int .i64 0, .int .i64 0] 24)) hlen (h.ext hx0) (by omega) hcp hall hv
  have hndN : nd N ≤ 1000 := by
    rw [← hv]
    have := (nd_le_iff (val l) l.length).2 (val_lt hall)
    omega
  have hdl := dig_length N
  clear h hlen hv hall hx0
  go_enter Tryd.func50, Tryd.ntmps50
  go_upto_if 19 with (go_at_call 69; refine hst.mono ?_; rintro e w' ⟨⟨A', cap', rfl, hr, hcp'⟩, rfl⟩; rw [hdl])
  have HR := Lib.hid hr
  have HDL := Lib.hid hdl
  rw [hdl] at hcp'
  clear hr hdl hst
  go_cut [6, 7] (fun s6 s7 wx => NSt base ((w.alloc (.cells #[.bool neg, .slice A len cap, .int .i64 ex] 45)).alloc (.cells #[.int .i64 0, .int .i64 0] 24)) (n1 N more) (ex + (nd N - 15 : Nat)) s6 s7 wx)
  case first =>
    by_cases h15 : 15 < nd N
    · have e15 : decide ((15 : Int) < (nd N : Int)) = true := by simp; omega
      have hsub : (nd N : Int) - 15 = ((nd N - 15 : Nat) : Int) := by omega
      have hct := rcut_any base A' cap' (nd N) (nd N - 15) N more ((w.alloc (.cells #[.bool neg, .slice A len cap, .int .i64 ex] 45)).alloc (.cells #[.int .i64 0, .int .i64 0] 24)) (by omega) rfl HR.out hcp' (by omega) (by simp; omega)
      go_wp2_with (go_at_call 74; refine hct.mono ?_; rintro e w' ⟨⟨A2, c2, rfl, hr2, hc2⟩, hb2⟩; rw [dig_length] at *)
      go_meet
      exact ⟨A2, c2, _, rfl, rfl, fun _ => rfl, by omega, by omega, hr2, hc2, hb2⟩
    · have hn1 : n1 N more = N := by unfold n1; rw [show nd N - 15 = 0 by omega, cutN_zero]
      have HN1 := Lib.hid hn1
      clear hn1
      go_wp2
      go_meet
      rw [HN1.out]
      exact ⟨A', cap', _, rfl, rfl, fun _ => by rw [show nd N - 15 = 0 by omega]; simp, by omega, by omega, HR.out, hcp', Ext.refl _⟩
  case rest =>
    obtain ⟨A1, c1, E1, rfl, rfl, hE1, hE1a, hE1b, hr1, hc1, hx1⟩ := hcut
    obtain ⟨os1, d1, rfl⟩ := hx1.more
    have hnd1 := nd_n1 N more
    have HR1 := Lib.hid hr1
    have HE1 := Lib.hid hE1
    clear hr1 hE1 hx1 HR
    go_upto_region 7 with (fail)
    refine wp_region_lit ?_
    (refine wpL_read (v := ?_) rfl ?_ ?_; rotate_left 1; (go_simp; first | done | rfl))
    try simp only [Act.put, List.setIfInBounds_toArray, List.set_cons_zero, List.set_cons_succ]
    (refine wpL_read (v := ?_) rfl ?_ ?_; rotate_left 1; (go_simp; first | done | rfl))
    try simp only [Act.put, List.setIfInBounds_toArray, List.set_cons_zero, List.set_cons_succ]
    (refine wpL_read (v := ?_) rfl ?_ ?_; rotate_left 1; (go_simp; first | done | rfl))
    try simp only [Act.put, List.setIfInBounds_toArray, List.set_cons_zero, List.set_cons_succ]
    (refine wpL_gread (v := ?_) (c := ?_) rfl rfl rfl ?_ (fun hc => ?_) ?_; rotate_left 2; (first | exact gc_t _ | exact gc_f _ | exact gc_gt _ _ | exact gc_gf _ _); ((try simp only [gv_of hc]); (try (have hc1 := and_l hc; (try simp only [gv_of hc1]); (try (have hc2 := and_l hc1; (try simp only [gv_of hc2]))))); go_simp; first | done | rfl))
    try simp only [Act.put, List.setIfInBounds_toArray, List.set_cons_zero, List.set_cons_succ]
    (refine wpL_gread (v := ?_) (c := ?_) rfl rfl rfl ?_ (fun hc => ?_) ?_; rotate_left 2; (first | exact gc_t _ | exact gc_f _ | exact gc_gt _ _ | exact gc_gf _ _); ((try simp only [gv_of hc]); (try (have hc1 := and_l hc; (try simp only [gv_of hc1]); (try (have hc2 := and_l hc1; (try simp only [gv_of hc2]))))); go_simp; first | done | rfl))
    try simp only [Act.put, List.setIfInBounds_toArray, List.set_cons_zero, List.set_cons_succ]
    (refine wpL_gread (v := ?_) (c := ?_) rfl rfl rfl ?_ (fun hc => ?_) ?_; rotate_left 2; (first | exact gc_t _ | exact gc_f _ | exact gc_gt _ _ | exact gc_gf _ _); ((try simp only [gv_of hc]); (try (have hc1 := and_l hc; (try simp only [gv_of hc1]); (try (have hc2 := and_l hc1; (try simp only [gv_of hc2]))))); go_simp; first | done | rfl))
    try simp only [Act.put, List.setIfInBounds_toArray, List.set_cons_zero, List.set_cons_succ]
    first | (refine wpL_pick_and rfl rfl rfl rfl rfl ?_) | (refine wpL_pick_or rfl rfl rfl rfl rfl ?_)
    try simp only [Act.put, List.setIfInBounds_toArray, List.set_cons_zero, List.set_cons_succ]
    refine wpList_nil ?_
    try go_simp
    go_upto_if 36 with (fail)
    go_cut [6, 7] (fun s6 s7 wx => NSt base ((w.alloc (.cells #[.bool neg, .slice A len cap, .int .i64 ex] 45)).alloc (.cells #[.int .i64 0, .int .i64 0] 24)) (n2 N more ex) (e2 N ex) s6 s7 wx)
    case first =>
      by_cases hlow : E1 < -40
      · by_cases hpos : n1 N more = 0
        · have hz : nd (n1 N more) = 0 := by rw [hpos, nd_zero]
          have e1 : decide (E1 < -40) = true := by simp; omega
          have e2' : decide (0 < nd (n1 N more)) = false := by simp; omega
          have e3' : ¬ (0 < nd (n1 N more)) := by omega
          have HZ := Lib.hid hpos
          clear hpos hz
          go_wp2_with fail
          go_meet
          have h20 := n2_of_n1_zero (e := ex) HZ.out
          refine ⟨A1, c1, E1, ?_, rfl, fun h0 => absurd h20 h0, hE1a, hE1b, ?_, ?_, by repeat (first | exact Ext.refl _ | apply Ext.drew | apply Ext.alloc | apply Ext.more_)⟩
          · rw [h20, HZ.out]
          · rw [h20, dig_zero]; exact Rd.nil _ _ _
          · rw [h20, nd_zero]; exact Nat.zero_le _
        · obtain ⟨k, rfl⟩ : ∃ k : Nat, E1 = -40 - (k : Int) := ⟨(-40 - E1).toNat, by omega⟩
          have hkk : -40 - (-40 - (k : Int)) = k := by omega
          have hk2 : (-40 - (ex + (nd N - 15 : Nat))).toNat = k := by have := HE1.out hpos; omega
          have he2 : e2 N ex = -40 := by unfold e2; have := HE1.out hpos; omega
          have hnp : 0 < nd (n1 N more) := by rw [nd_pos hpos]; omega
          have e1 : decide (-40 - (k : Int) < -40) = true := by simp; omega
          have e2' : decide (0 < nd (n1 N more)) = true := by simp; omega
          have HK := Lib.hid hk2
          have HE2 := Lib.hid he2
          clear hk2 he2 hpos
          have hct := rcut_any base A1 c1 (nd (n1 N more)) k (n1 N more) false _ (by omega) rfl HR1.out hc1 (by omega) (by simp; omega)
          go_wp2_with (go_at_call 74; refine hct.mono ?_; rintro e w' ⟨⟨A2, c2, rfl, hr2, hc2⟩, hb2⟩; rw [dig_length] at *)
          go_meet
          have hn2 : n2 N more ex = cutN (n1 N more) k false := by unfold n2; rw [HK.out]
          rw [hn2, HE2.out]
          exact ⟨A2, c2, _, rfl, rfl, fun _ => rfl, by omega, by omega, hr2, hc2, (ext_more _ _ _).trans hb2⟩
      · have e1 : decide (E1 < -40) = false := by simp; omega
        go_wp2
        go_meet
        have hn2 : n2 N more ex = n1 N more := by
          by_cases h0 : n1 N more = 0
          · rw [n2_of_n1_zero h0, h0]
          · unfold n2; rw [← HE1.out h0, show (-40 - E1).toNat = 0 by omega, cutN_zero]
        rw [hn2]
        exact ⟨A1, c1, E1, rfl, rfl, fun h0 => by unfold e2; rw [← HE1.out h0]; omega, hE1a, hE1b, HR1.out, hc1, ext_more _ _ _⟩
    case rest =>
      obtain ⟨A2, c2, E2, rfl, rfl, hE2, hE2a, hE2b, hr2, hc2, hx2⟩ := hcut
      obtain ⟨os2, d2, rfl⟩ := hx2.more
      have hnd2 := nd_n2 N more ex
      clear hx2 HR1 HE1
      have HR2 := Lib.hid hr2
      have HE2 := Lib.hid hE2
      clear hr2 hE2
      generalize hM2 : n2 N more ex = M2 at *
      have HM2 := Lib.hid hM2
      clear hM2
      go_wp2_with fail
      go_loop [6, 7] (fun a b => ∃ (M : Nat) (E' : Int) (A3 : Option Addr) (c3 : Nat), nd M ≤ 16 ∧ a = .slice A3 (nd M) c3 ∧ b = .int .i64 E' ∧ nd M ≤ c3 ∧ -2000000 ≤ E' ∧ E' + nd M ≤ 2000016 ∧ Hid (Rd base (moreW ((w.alloc (.cells #[.bool neg, .slice A len cap, .int .i64 ex] 45)).alloc (.cells #[.int .i64 0, .int .i64 0] 24)) os2 d2) A3 (i6 (dig M))) ∧ Hid (NRel M2 E2 M E')) (fun a _ => slen a)
      case atStart => exact ⟨M2, E2, A2, c2, hnd2, rfl, rfl, hc2, hE2a, by omega, HR2, by
        show NRel _ _ _ _
        by_cases h0 : M2 = 0
        · exact Or.inl ⟨h0, h0⟩
        · exact Or.inr ⟨h0, h0, rfl, rfl, Nat.le_refl _⟩⟩
      case round =>
        obtain ⟨M, E', A3, c3, hndM, rfl, rfl, hc3, hEa, hEb, HR3, HN⟩ := hrel
        by_cases hM : M = 0
        · have hz : nd M = 0 := by rw [hM, nd_zero]
          have HZ := Lib.hid hM
          have HM0 : Hid (rnd neg N more ex = some (0, 0)) := by
            show _ = _
            apply rnd_of_zero
            rw [HM2.out]
            rcases HN.out with ⟨_, h2⟩ | ⟨h2, _⟩
            · exact h2
            · exact absurd hM h2
          rw [hz]
          clear hM hz
          go_wp2_with fail
          exact bodyPost_ret (v := .tuple #[NV 0 0, .bool true]) (by simp [results, Tryd.results50, go_sem]; done) rfl ⟨by rw [HM0.out]; rfl, by repeat (first | exact Ext.refl _ | apply Ext.drew | apply Ext.alloc | apply Ext.more_)⟩
        · have hnp : 1 ≤ nd M := by rw [nd_pos hM]; omega
          obtain ⟨b3, o3, rfl, _, hcl⟩ := Rd.at_ HR3.out (dig_last hM)
          have hnn : ((nd M : Int) - 1) = ((nd M - 1 : Nat) : Int) := by omega
          by_cases h10 : M % 10 = 0
          · have HS := Lib.hid (HN.out.step hM h10)
            have HRt := Lib.hid (Rd.take HR3.out (nd M - 1))
            have hnd10 : nd (M / 10) = nd M - 1 := by rw [nd_pos hM]; omega
            have HI := Lib.hid (dig_init hM)
            have e0 : (((M % 10 : Nat) : Int) == 0) = true := by simp; omega
            have HND := Lib.hid hnd10
            clear hnd10
            go_wp2_with fail
            refine ⟨⟨M / 10, E' + 1, some ⟨b3, o3, none⟩, c3, ?_, ?_, rfl, ?_, by omega, ?_, ?_, HS⟩, by simp [slen]; omega⟩
            · rw [HND.out]; omega
            · rw [HND.out]
            · rw [HND.out]; omega
            · rw [HND.out]; omega
            · show Rd _ _ _ _
              have := HRt.out
              rw [← List.map_take, HI.out] at this
              exact this
          · have e0 : (((M % 10 : Nat) : Int) == 0) = false := by simp; omega
            have e0b : (nd M == 0) = false := by simp; omega
            have e0c : ((nd M : Int) == 0) = false := by simp; omega
            have hlt15 : M < 10000000000000000 := by
              have h1 := lt_T_nd M
              have h2 := T_mono hndM
              have h3 : T 16 = 10000000000000000 := by decide
              omega
            have HF : Hid (rnd neg N more ex = if 40 < (nd M : Int) + E' then none else some (sg neg M, E')) := by
              show _ = _
              rcases HN.out with ⟨h2, _⟩ | ⟨_, h3, h4, h5, _⟩
              · exact absurd h2 hM
              · have hE := HE2.out h3
                rw [trim_done _ h10] at h4
                unfold rnd
                rw [HM2.out, if_neg h3, ← hE, ← h5, ← h4]
            have HALLM := Lib.hid (dig_all M)
            have HVM := Lib.hid (val_dig M)
            have HDM := Lib.hid (dig_length M)
            have HB : Hid (∀ j, val ((dig M).take j) < 10000000000000000) := by
              intro j
              have h1 := val_lt ((dig_all M).take j)
              have h2 : T ((dig M).take j).length ≤ T 16 := T_mono (by rw [List.length_take, dig_length]; omega)
              have h3 : T 16 = 10000000000000000 := by decide
              omega
            clear h10 hM
            by_cases h40 : 40 < (nd M : Int) + E'
            · go_wp2_with fail
              refine bodyPost_ret (v := .tuple #[NV 0 0, .bool false]) (by simp [results, Tryd.results50, go_sem]; done) rfl ⟨?_, by repeat (first | exact Ext.refl _ | apply Ext.drew | apply Ext.alloc | apply Ext.more_)⟩
              rw [HF.out, if_pos h40]; (try rfl)
            · go_wp2_with fail
              go_loop [10, 11] (fun a b => ∃ j : Nat, j ≤ nd M ∧ b = .int .i64 (j : Int) ∧ a = .int .i64 ((val ((dig M).take j) : Nat) : Int)) (fun _ b => nd M - (intOf b).toNat)
              case atStart => exact ⟨0, Nat.zero_le _, rfl, rfl⟩
              case round =>
                obtain ⟨j, hj, rfl, rfl⟩ := hrel
                have hVb := HB.out j
                by_cases hlt : j < nd M
                · obtain ⟨d, hd⟩ : ∃ d, (dig M)[j]? = some d := ⟨(dig M)[j]'(by have := HDM.out; omega), by rw [List.getElem?_eq_getElem]⟩
                  obtain ⟨b4, o4, hA4, _, hcj⟩ := Rd.at_ HR3.out hd
                  simp only [Option.some.injEq, Addr.mk.injEq, and_true] at hA4
                  obtain ⟨rfl, rfl⟩ := hA4
                  have hd10 := HALLM.out.at hd
                  have hV2 : val ((dig M).take (j + 1)) = 10 * val ((dig M).take j) + d := by rw [take_at hd, val_snoc]
                  have HV3 := Lib.hid hV2
                  clear hV2 hd
                  generalize hV : val ((dig M).take j) = V at *
                  have HV := Lib.hid hV
                  clear hV
                  go_wp2
                  refine ⟨⟨j + 1, by omega, by go_num, ?_⟩, by simp [intOf]; omega⟩
                  rw [HV3.out]; exact congrArg (Value.int .i64) (by omega)
                · have hMv : val ((dig M).take j) = M := by rw [List.take_of_length_le (by have := HDM.out; omega)]; exact HVM.out
                  rw [hMv]
                  clear hMv hVb
                  have w1 : wrap64 (-(M : Int)) = -(M : Int) := IntWalk.wrap64_in _ (by omega)
                  have w2 : IntKind.i64.wrap (-(M : Int)) = -(M : Int) := i64w (by omega) (by omega)
                  cases neg with
                  | false =>
                    go_wp2_with fail
                    refine bodyPost_ret (v := .tuple #[NV (M : Int) E', .bool true]) (by simp [results, Tryd.results50, go_sem]; done) rfl ⟨?_, by repeat (first | exact Ext.refl _ | apply Ext.drew | apply Ext.alloc | apply Ext.more_)⟩
                    rw [HF.out, if_neg (by omega)]; (try rfl)
                  | true =>
                    go_wp2_with fail
                    refine bodyPost_ret (v := .tuple #[NV (-(M : Int)) E', .bool true]) (by simp [results, Tryd.results50, go_sem]; done) rfl ⟨?_, by repeat (first | exact Ext.refl _ | apply Ext.drew | apply Ext.alloc | apply Ext.more_)⟩
                    rw [HF.out, if_neg (by omega)]; (try rfl)
end Go.Proofs.YtihfiegopnjeiaaDoor
