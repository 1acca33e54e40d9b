/- num.trimmed and num.round. -/
import Derived.Test.YtihfiegopnjeiaaDoorDigs
namespace Go.Proofs.YtihfiegopnjeiaaDoor
set_option linter.unusedSimpArgs false
set_option linter.unusedVariables false
open Go.RowKit NM

set_option maxHeartbeats 1000000 in
theorem trimmed_any (neg : Bool) (N : Nat) (ex : Int) (w : World) (hN : N < 9223372036854775808) (he : -4611686018427387904 ≤ ex ∧ ex ≤ 4611686018427387904) :
    Calls Tryd.prog 60 #[.bool neg, .int .u64 (N : Int), .int .i64 ex] w fun e w' => e = .returned (NV (sg neg (trim N ex).1) (trim N ex).2) ∧ Ext w w' := by
  by_cases h0 : N = 0
  · subst h0
    rw [trim_zero]
    have hs : sg neg 0 = 0 := by unfold sg; split <;> rfl
    simp only [hs]
    go_enter Tryd.func60, Tryd.ntmps60
    go_wp2
    exact bodyPost_ret (v := NV 0 0) (by simp [results, Tryd.results60, go_sem]; done) rfl ⟨rfl, by repeat (first | exact Ext.refl _ | apply Ext.drew | apply Ext.alloc | apply Ext.more_)⟩
  · have h0' : ((N : Int) == 0) = false := by simp [h0]
    have h0b : (N == 0) = false := by simp [h0]
    generalize hR : trim N ex = R
    have HR := Lib.hid hR
    have HN := Lib.hid hN
    have hnd : nd N ≤ 19 := (nd_le_iff N 19).2 (by have : T 19 = 10000000000000000000 := by decide
                                                   omega)
    clear hR hN
    have h0c : 0 < N := by omega
    clear h0
    go_enter Tryd.func60, Tryd.ntmps60
    go_wp2
    go_loop [1, 2] (fun a b => ∃ (M : Nat) (e' : Int), 0 < M ∧ Hid (M < 9223372036854775808) ∧ a = .int .u64 (M : Int) ∧ b = .int .i64 e' ∧ Hid (trim M e' = R) ∧ Hid (e' + nd M = ex + nd N)) (fun a _ => (intOf a).toNat)
    case atStart => exact ⟨N, ex, h0c, HN, rfl, rfl, HR, by show _ = _; rfl⟩
    case round =>
      obtain ⟨M, e', hM, HM, rfl, rfl, HT, HE⟩ := hrel
      have hb1 : -4611686018427387904 ≤ e' + 19 ∧ e' ≤ 4611686018427387923 := by
        have h1 := HE.out
        have : nd M ≤ 19 := (nd_le_iff M 19).2 (by have : T 19 = 10000000000000000000 := by decide
                                                   have := HM.out
                                                   omega)
        omega
      by_cases hm : M % 10 = 0
      · have e1 : ((M : Int) % 10 == 0) = true := by simp; omega
        have e2 : IntKind.u64.wrap ((M : Int) / 10) = (M : Int) / 10 := by rw [IntKind.wrap_u64]; have := HM.out; omega
        have HMM := Lib.hid hm
        clear hm
        go_wp2
        refine ⟨⟨M / 10, e' + 1, ?_, ?_, by go_num, rfl, ?_, ?_⟩, by simp [intOf]; omega⟩
        · have := HMM.out; omega
        · show _ < _; have := HM.out; omega
        · show _ = _; rw [← trim_ten e' (by omega) HMM.out]; exact HT.out
        · show _ = _; have h1 := HE.out; rw [nd_pos (show M ≠ 0 by omega)] at h1; omega
      · have e1 : ((M : Int) % 10 == 0) = false := by simp; omega
        have e3 : wrap64 (M : Int) = M := IntWalk.wrap64_in _ (by have := HM.out; omega)
        have HMM := Lib.hid hm
        clear hm
        have e4 : wrap64 (-(M : Int)) = -(M : Int) := IntWalk.wrap64_in _ (by have := HM.out; omega)
        obtain rfl : (M, e') = R := by have := HT.out; rwa [trim_done _ HMM.out] at this
        cases neg
        · go_wp2
          exact bodyPost_ret (v := NV (M : Int) e') (by simp [results, Tryd.results60, go_sem]; done) rfl ⟨rfl, by repeat (first | exact Ext.refl _ | apply Ext.drew | apply Ext.alloc | apply Ext.more_)⟩
        · go_wp2
          exact bodyPost_ret (v := NV (-(M : Int)) e') (by simp [results, Tryd.results60, go_sem]; done) rfl ⟨rfl, by repeat (first | exact Ext.refl _ | apply Ext.drew | apply Ext.alloc | apply Ext.more_)⟩

theorem cnt_nd {n : Nat} (h : n ≠ 0) : cnt n = nd n := by
  induction n using Nat.strongRecOn with
  | ind n ih =>
    by_cases h1 : n < 10
    · rw [cnt_lt h1, nd_pos h, show n / 10 = 0 by omega, nd_zero]
    · rw [cnt_ge (by omega), nd_pos h, ih (n / 10) (by omega) (by omega)]
theorem numRight_Rt (m e : Int) : numRightB m e = decide (Rt m e) := by
  have hT : T 15 = 1000000000000000 := by decide
  unfold numRightB
  by_cases h0 : m = 0
  · subst h0
    rw [if_pos rfl, Bool.eq_iff_iff]
    simp [Rt]
  · rw [if_neg h0]
    have hs := sizeI_nat m
    have hc : countI (sizeI m) = nd m.natAbs := by unfold countI; rw [hs, Int.toNat_natCast, cnt_nd (by omega)]
    rw [hc, hs]
    have hn := nd_pos (show m.natAbs ≠ 0 by omega)
    split
    · symm
      rw [decide_eq_false_iff_not]
      unfold Rt
      rw [hT]
      omega
    · rw [Bool.eq_iff_iff, decide_eq_true_eq, decide_eq_true_eq]
      unfold Rt
      rw [hT]
      omega

/-- A number and whether there is one, as the calls hand it back. -/
def rm (r : Option (Int × Int)) : Int := (r.getD (0, 0)).1
def re (r : Option (Int × Int)) : Int := (r.getD (0, 0)).2
abbrev rnV (r : Option (Int × Int)) : Value := .tuple #[NV (rm r) (re r), .bool r.isSome]

theorem pair_facts {w : World} {b : Nat} {x y : Value} {t : TypeId} (h : w.heap[b]? = some (.cells #[x, y] t (0, 0))) : b < w.heap.size ∧ w.cell? ⟨b, 0, none⟩ = some x ∧ w.cell? ⟨b, 1, none⟩ = some y ∧ w.frozen? ⟨b, 0, none⟩ = false ∧ w.frozen? ⟨b, 1, none⟩ = false := by
  refine ⟨lt_block h, ?_, ?_, ?_, ?_⟩ <;> simp [World.cell?, World.frozen?, h]
def St1 (base : Nat) (w : World) (N : Nat) (ex : Int) (s1 s2 : Value) (wx : World) : Prop :=
  ∃ A cap D1 e1, s1 = .slice A D1.length cap ∧ s2 = .int .i64 e1 ∧ Dg .u8 5 base wx A cap D1 ∧ AllD D1 ∧ D1.length = nd (val D1) ∧ val D1 = n1 N false ∧ e1 = ex + (nd N - 15 : Nat) ∧ Kp base (w.alloc (.cells #[.int .i64 0, .int .i64 0] 24)) wx
def St2 (base : Nat) (w : World) (N : Nat) (ex : Int) (s1 s2 : Value) (wx : World) : Prop :=
  ∃ A cap D2, s1 = .slice A D2.length cap ∧ s2 = .int .i64 (e2 N ex) ∧ Dg .u8 5 base wx A cap D2 ∧ AllD D2 ∧ D2.length ≤ 17 ∧ val D2 = n2 N false ex ∧ Kp base (w.alloc (.cells #[.int .i64 0, .int .i64 0] 24)) wx
theorem Kp.pair {base : Nat} {w wx : World} (h : Kp base (w.alloc (.cells #[.int .i64 0, .int .i64 0] 24)) wx) : wx.heap[w.heap.size]? = some (.cells #[.int .i64 0, .int .i64 0] 24 (0, 0)) :=
  h.oth _ _ Array.getElem?_push_size (by simp) (fun c fz he => by cases he)
/-- What is left of a list after a cut has as many digits as it tells. -/
theorem cut_len {D r : List Nat} {n : Nat} (hl : D.length = nd (val D)) (hn : n < D.length) (hn0 : 0 < n) (hr : AllD r) (hv : val r = cutN (val D) (D.length - n) false) (hln : r.length = n ∨ r.length = n + 1 ∧ val r = T n) : r.length = nd (val r) := by
  have h0 : val D ≠ 0 := fun h => by rw [h, nd_zero] at hl; omega
  rcases hln with h1 | ⟨h1, h2⟩
  · have ha := val_lt hr
    rw [h1] at ha
    have hb : T (n - 1) ≤ val r := by
      rw [hv]
      exact cutN_ge_T false (by rw [show D.length - n + (n - 1) = nd (val D) - 1 by omega]; exact T_le_of_nd h0)
    rw [h1, nd_eq (k := n - 1) hb (by rw [show n - 1 + 1 = n by omega]; exact ha)]; omega
  · rw [h1, h2, nd_T]
theorem i64w {n : Int} (h1 : -9223372036854775808 ≤ n) (h2 : n ≤ 9223372036854775807) : IntKind.i64.wrap n = n := by rw [IntKind.wrap_i64]; omega

set_option maxRecDepth 100000 in
set_option maxHeartbeats 2000000 in
theorem round_any (base : Nat) (neg : Bool) (A : Option Addr) (cap : Nat) (l : List Nat) (ex : Int) (w : World) (h : Dg .u8 5 base w A cap l) (hall : AllD l) (hl : l.length ≤ 1000) (hb : base ≤ w.heap.size) (he : -9223372036854775808 ≤ ex) :
    Calls Tryd.prog 47 #[.bool neg, .slice A l.length cap, .int .i64 ex] w fun e w' => e = .returned (rnV (rnd neg (val l) false ex)) ∧ Below base w w' := by
  have hbare := bare_any base A cap l (w.alloc (.cells #[.int .i64 0, .int .i64 0] 24)) (h.ext (by repeat (first | exact Ext.refl _ | apply Ext.drew | apply Ext.alloc | apply Ext.more_))) (by omega)
  have hD := strip_all hall
  have hDl := strip_length hall
  have hDv := val_strip l
  generalize hDD : strip l = D at *
  generalize hNN : val l = N at *
  have HDL := Lib.hid hDl
  have HDV := Lib.hid hDv
  have HD := Lib.hid hD
  have hDL : D.length ≤ 1000 := by rw [← hDD]; exact Nat.le_trans (List.dropWhile_sublist _).length_le hl
  clear hDl hDv hD hDD hNN h hall
  by_cases hN : N = 0
  · have hd0 : D.length = 0 := by rw [HDL.out, hN, nd_zero]
    have HD0 := Lib.hid hd0
    have hr : rnd neg N false ex = some (0, 0) := rnd_of_zero (by rw [hN]; exact n2_zero _ _)
    rw [hr]
    clear hd0 hN hr
    go_enter Tryd.func47, Tryd.ntmps47
    go_wp2_with (go_at_call 72; refine hbare.mono ?_; rintro e w' ⟨⟨A', cap', rfl, hdg⟩, rfl⟩; rw [HD0.out])
    exact bodyPost_ret (v := .tuple #[NV 0 0, .bool true]) (by simp [results, Tryd.results47, go_sem]; done) rfl ⟨rfl, Below.mono (by repeat (first | exact Ext.refl _ | apply Ext.drew | apply Ext.alloc | apply Ext.more_)) hb⟩
  · have hlen0 : (D.length == 0) = false := by have := nd_pos hN; simp; rw [← List.length_eq_zero_iff, HDL.out]; omega
    have hlen0' : ((D.length : Int) == 0) = false := by simpa using hlen0
    by_cases h40 : 40 ≤ ex
    · rw [rnd_far_up hN h40]
      clear hN
      go_enter Tryd.func47, Tryd.ntmps47
      go_wp2_with (go_at_call 72; refine hbare.mono ?_; rintro e w' ⟨⟨A', cap', rfl, hdg⟩, rfl⟩)
      exact bodyPost_ret (v := .tuple #[NV 0 0, .bool false]) (by simp [results, Tryd.results47, go_sem]; done) rfl ⟨rfl, Below.mono (by repeat (first | exact Ext.refl _ | apply Ext.drew | apply Ext.alloc | apply Ext.more_)) hb⟩
    · have h40' : ex < 40 := by omega
      go_enter Tryd.func47, Tryd.ntmps47
      go_upto_if 27 with (go_at_call 72; refine hbare.mono ?_; rintro e w' ⟨⟨A', cap', rfl, hdg⟩, rfl⟩)
      have HDG := Lib.hid hdg
      clear hdg
      go_cut [1, 2] (fun s1 s2 wx => St1 base w N ex s1 s2 wx)
      case first =>
        by_cases h15 : 15 < D.length
        · have e15 : decide ((15 : Int) < D.length) = true := by simp; omega
          go_wp2_with (go_at_call 73; refine (cut_any base cap' 15 D.length A' D _ HDG.out rfl h15 (by omega) HD.out).mono ?_; rintro e w' ⟨A2, cap2, r, rfl, g1, g2, g3, g4, g5⟩)
          go_meet
          refine ⟨A2, cap2, r, _, rfl, rfl, g1, g2, cut_len (by rw [HDL.out, HDV.out]) h15 (by omega) g2 g3 g4, ?_, ?_, g5⟩
          · rw [g3, HDV.out, HDL.out]; rfl
          · rw [← HDL.out]; omega
        · go_wp2
          go_meet
          refine ⟨A', cap', D, _, rfl, rfl, HDG.out, HD.out, by rw [HDL.out, HDV.out], ?_, ?_, Kp.refl _ _⟩
          · unfold n1; rw [← HDL.out, show D.length - 15 = 0 by omega, cutN_zero]; exact HDV.out
          · rw [← HDL.out, show D.length - 15 = 0 by omega]; simp
      case rest =>
        obtain ⟨A1, c1, D1, e1, rfl, rfl, hdg1, hall1, hl1, hv1, he1, hk1⟩ := hcut
        have hb1 : 1 ≤ D1.length ∧ D1.length ≤ 16 := by
          rw [hl1, hv1]
          have h1 := n1_pos false hN
          have h2 := nd_pos h1
          have h3 := (nd_le_iff (n1 N false) 16).2 (Nat.lt_of_le_of_lt (n1_le N false) (T_lt (by omega)))
          omega
        have hndN : nd N ≤ 1000 := by rw [← HDL.out]; exact hDL
        have hb2 : -9223372036854775808 ≤ e1 ∧ e1 ≤ 2000 := by omega
        have HDG1 := Lib.hid hdg1
        have HALL1 := Lib.hid hall1
        have HL1 := Lib.hid hl1
        have HV1 := Lib.hid hv1
        have HE1 := Lib.hid he1
        clear hdg1 hall1 hl1 hv1 he1 hndN HDG HD hbare
        obtain ⟨q0, q1, q2, q3, q4⟩ := pair_facts hk1.pair
        go_upto_if 34 with fail
        go_cut [1, 2] (fun s1 s2 wx => St2 base w N ex s1 s2 wx)
        case first =>
          by_cases hlow : e1 < -40
          · obtain ⟨k, rfl⟩ : ∃ k : Nat, e1 = -40 - (k : Int) := ⟨(-40 - e1).toNat, by omega⟩
            have hkk : -40 - (-40 - (k : Int)) = k := by omega
            have hk2 : (-40 - (ex + (nd N - 15 : Nat))).toNat = k := by have := HE1.out; omega
            have HK2 := Lib.hid hk2
            clear hk2
            by_cases hfar : D1.length < k
            · have hfar' : ((D1.length : Int) < (k : Int)) := by omega
              go_wp2
              have hr0 : rnd neg N false ex = some (0, 0) := rnd_of_zero (by unfold n2; rw [HK2.out]; exact cutN_far _ (by rw [← HV1.out, ← HL1.out]; exact hfar))
              rw [hr0]
              exact bodyPost_ret (v := .tuple #[NV 0 0, .bool true]) (by simp [results, Tryd.results47, go_sem, q0, q1, q2]; done) rfl ⟨rfl, (((Below.mono ((Ext.refl w).alloc _) hb).trans hk1.bel).setCell hb _).setCell hb _⟩
            · have hfar' : ¬ ((D1.length : Int) < (k : Int)) := by omega
              have hsub : (D1.length : Int) - (k : Int) = ((D1.length - k : Nat) : Int) := by omega
              go_wp2_with (go_at_call 73; refine (cut_any base c1 (D1.length - k) D1.length A1 D1 _ HDG1.out rfl (by omega) (by omega) HALL1.out).mono ?_; rintro e w' ⟨A2, cap2, r, rfl, g1, g2, g3, g4, g5⟩)
              go_meet
              refine ⟨A2, cap2, r, rfl, ?_, g1, g2, by omega, ?_, hk1.trans g5⟩
              · unfold e2; rw [← HE1.out, show max (-40 - (k : Int)) (-40) = -40 by omega]
              · unfold n2; rw [g3, HV1.out, HK2.out, show D1.length - (D1.length - k) = k by omega]
          · go_wp2
            go_meet
            refine ⟨A1, c1, D1, rfl, ?_, HDG1.out, HALL1.out, by omega, ?_, hk1⟩
            · unfold e2; rw [← HE1.out, show max e1 (-40) = e1 by omega]
            · unfold n2; rw [← HE1.out, show (-40 - e1).toNat = 0 by omega, cutN_zero]; exact HV1.out
        case rest =>
          obtain ⟨A2, c2, D2, rfl, rfl, hdg2, hall2, hl2, hv2, hk2⟩ := hcut
          clear q0 q1 q2 q3 q4 hk1 HDG1 HALL1 HL1 HV1 HE1
          obtain ⟨q0, q1, q2, q3, q4⟩ := pair_facts hk2.pair
          have hdl : ∀ j, j ≤ D2.length → val (D2.take j) < 100000000000000000 := fun j hj => by
            have h1 := val_lt (hall2.take j)
            have h2 : T (D2.take j).length ≤ T 17 := T_mono (by rw [List.length_take]; omega)
            have h3 : T 17 = 100000000000000000 := by decide
            omega
          have HDL2 := Lib.hid hdl
          have HDG2 := Lib.hid hdg2
          have HALL2 := Lib.hid hall2
          have HV2 := Lib.hid hv2
          have hwb := hk2.size
          clear hdg2 hall2 hv2 hdl
          go_wp2_with fail
          go_loop [10, 50] (fun a b => ∃ j : Nat, j ≤ D2.length ∧ b = .int .i64 (j : Int) ∧ a = .int .u64 ((val (D2.take j) : Nat) : Int)) (fun _ b => D2.length - (intOf b).toNat)
          case atStart => exact ⟨0, Nat.zero_le _, rfl, rfl⟩
          case round =>
            obtain ⟨j, hj, rfl, rfl⟩ := hrel
            have hVb := HDL2.out j hj
            by_cases hlt : j < D2.length
            · obtain ⟨d, hd⟩ : ∃ d, D2[j]? = some d := ⟨D2[j], by rw [List.getElem?_eq_getElem]⟩
              obtain ⟨bb, off, rfl, _, hcj, _⟩ := HDG2.out.at hd
              have hd10 := HALL2.out.at hd
              have hV2 : val (D2.take (j + 1)) = 10 * val (D2.take j) + d := by rw [take_at hd, val_snoc]
              have HV3 := Lib.hid hV2
              clear hV2 hd
              generalize hV : val (D2.take j) = V at *
              have e1 : IntKind.u64.wrap ((V : Int) * 10) = (V : Int) * 10 := by rw [IntKind.wrap_u64]; omega
              have e2 : IntKind.u64.wrap ((V : Int) * 10 + (d : Int)) = (V : Int) * 10 + d := by rw [IntKind.wrap_u64]; omega
              have HV := Lib.hid hV
              clear hV
              go_wp2
              refine ⟨⟨j + 1, by omega, by go_num, ?_⟩, by simp [intOf]; omega⟩
              rw [HV3.out]; congr 1; omega
            · have hM : val (D2.take j) = n2 N false ex := by rw [List.take_of_length_le (by omega)]; exact HV2.out
              have hE : -40 ≤ e2 N ex ∧ e2 N ex ≤ 2000 := by unfold e2; have := HDL.out; omega
              generalize val (D2.take j) = M at *
              have htr := trimmed_any neg M (e2 N ex) wc (by omega) (by omega)
              have hmb : (trim M (e2 N ex)).1 ≤ M := by
                by_cases h0 : M = 0
                · rw [h0, trim_zero]; exact Nat.le_refl _
                · obtain ⟨k, ha, _, _⟩ := trim_spec M (e2 N ex) h0
                  have h1 := Nat.mul_le_mul_left (trim M (e2 N ex)).1 (T_pos k)
                  omega
              have hI : I64 (sg neg (trim M (e2 N ex)).1) := by unfold sg I64; split <;> omega
              have hkey : rnV (rnd neg N false ex) = if numRightB (sg neg (trim M (e2 N ex)).1) (trim M (e2 N ex)).2 = true then .tuple #[NV (sg neg (trim M (e2 N ex)).1) (trim M (e2 N ex)).2, .bool true] else .tuple #[NV 0 0, .bool false] := by
                rw [numRight_Rt]
                by_cases h0 : M = 0
                · rw [rnd_of_zero (by rw [← hM]; exact h0), h0, trim_zero]
                  have : sg neg 0 = 0 := by unfold sg; split <;> rfl
                  rw [this, if_pos (by decide)]; rfl
                · obtain ⟨h1, h2⟩ := rnd_of_pos (neg := neg) (N := N) (more := false) (e := ex) (by rw [← hM]; exact h0)
                  rw [← hM] at h1 h2
                  by_cases hr : Rt (sg neg (trim M (e2 N ex)).1) (trim M (e2 N ex)).2
                  · rw [h1 hr, if_pos (by simpa using hr)]; rfl
                  · rw [h2 hr, if_neg (by simpa using hr)]; rfl
              clear hmb hVb
              generalize sg neg (trim M (e2 N ex)).1 = m' at *
              generalize (trim M (e2 N ex)).2 = ee at *
              have HM := Lib.hid hM
              have hI64 := Lib.hid hI
              clear hM hI
              have hfin : Below base w wc := (Below.mono ((Ext.refl w).alloc _) hb).trans hk2.bel
              by_cases hR : numRightB m' ee = true
              · rw [if_pos hR] at hkey
                have HKEY := Lib.hid hkey
                clear hkey
                go_wp2_with (first | (go_at_call 60; refine htr.mono ?_; rintro e w' ⟨rfl, hb9⟩; obtain ⟨os, d, rfl⟩ := hb9.more) | (go_at_call 17; refine (numRight_any m' ee _ hI64.out).mono ?_; rintro e w' ⟨rfl, hb8⟩; obtain ⟨os2, d2, rfl⟩ := hb8.more))
                refine bodyPost_ret (v := .tuple #[NV m' ee, .bool true]) (by simp [results, Tryd.results47, go_sem, q0, q1, q2]; done) rfl ⟨?_, ?_⟩
                · rw [HKEY.out]
                · have hz := hfin.size
                  exact below_more ((below_more ((hfin.setCell hb _).setCell hb _) (by simp; omega) _ _).alloc (by simp; omega) _) (by simp; omega) _ _
              · rw [if_neg hR] at hkey
                have hR' : numRightB m' ee = false := by simpa using hR
                have HKEY := Lib.hid hkey
                clear hkey hR
                go_wp2_with (first | (go_at_call 60; refine htr.mono ?_; rintro e w' ⟨rfl, hb9⟩; obtain ⟨os, d, rfl⟩ := hb9.more) | (go_at_call 17; refine (numRight_any m' ee _ hI64.out).mono ?_; rintro e w' ⟨rfl, hb8⟩; obtain ⟨os2, d2, rfl⟩ := hb8.more))
                refine bodyPost_ret (v := .tuple #[NV 0 0, .bool false]) (by simp [results, Tryd.results47, go_sem, q0, q1, q2]; done) rfl ⟨?_, ?_⟩
                · rw [HKEY.out]
                · have hz := hfin.size
                  exact below_more ((below_more ((hfin.setCell hb _).setCell hb _) (by simp; omega) _ _).alloc (by simp; omega) _) (by simp; omega) _ _
end Go.Proofs.YtihfiegopnjeiaaDoor
