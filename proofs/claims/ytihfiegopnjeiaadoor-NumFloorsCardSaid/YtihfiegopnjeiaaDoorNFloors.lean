/- The law NumFloors: plain facts, and the walk. -/
import Derived.Test.YtihfiegopnjeiaaDoorNPl
import Derived.Test.YtihfiegopnjeiaaDoorNOrder
import Derived.Test.YtihfiegopnjeiaaDoorInt
import Derived.Test.YtihfiegopnjeiaaDoorRFloor
namespace Go.Proofs.YtihfiegopnjeiaaDoor
set_option linter.unusedSimpArgs false
set_option linter.unusedVariables false
open Go.RowKit NM

/-- 10 to the power 100, as a word. -/
def HX : Int := ((T 100 : Nat) : Int)
theorem HX_pos : 0 < HX := by have := T_pos 100; unfold HX; omega
theorem whole_sc {neg : Bool} {N : Nat} (h : nd N ≤ 15) : Rt (sg neg (trim N 0).1) (trim N 0).2 ∧ sc (sg neg (trim N 0).1) (trim N 0).2 = sg neg N * HX ∧ 0 ≤ (trim N 0).2 := by
  have h1 := fin_whole (neg := neg) h
  refine ⟨rnd_right h1, ?_, ?_⟩
  · rw [sc_sg]
    by_cases h0 : N = 0
    · rw [h0, trim_zero, Nat.zero_mul, sg_nought, Int.zero_mul]
    · rw [sc_trim h0 (by omega), sg_mul_nat]; rfl
  · by_cases h0 : N = 0
    · rw [h0, trim_zero]; exact Int.le_refl _
    · obtain ⟨k, _, hb, _⟩ := trim_spec N 0 h0
      rw [hb]; omega
theorem floor_spec {m e : Int} (h : Rt m e) : Rt (floorS m e).1 (floorS m e).2 ∧ 0 ≤ (floorS m e).2 ∧ sc (floorS m e).1 (floorS m e).2 ≤ sc m e ∧ sc m e < sc (floorS m e).1 (floorS m e).2 + HX := by
  have hH := HX_pos
  unfold floorS
  rw [if_neg (by simpa using h)]
  by_cases h0 : 0 ≤ e
  · rw [if_pos h0]; exact ⟨h, h0, Int.le_refl _, by show sc m e < sc m e + HX; omega⟩
  · rw [if_neg h0]
    obtain ⟨b1, b2, b3⟩ := Rt_bd h
    obtain ⟨k, hk⟩ : ∃ k : Nat, -e = (k : Int) := ⟨(-e).toNat, by omega⟩
    rw [hk, Int.toNat_natCast]
    have hk0 : 0 < k := by omega
    have hk100 : k ≤ 100 := by omega
    obtain ⟨w1, w2, w3⟩ := whole_sc (neg := decide (m < 0)) (floorN_nd h hk0)
    refine ⟨w1, w3, ?_⟩
    show sc (sg (decide (m < 0)) (trim (floorN m k) 0).1) (trim (floorN m k) 0).2 ≤ sc m e ∧ sc m e < sc (sg (decide (m < 0)) (trim (floorN m k) 0).1) (trim (floorN m k) 0).2 + HX
    rw [w2]
    have hdm := Nat.div_add_mod m.natAbs (T k)
    have hml := Nat.mod_lt m.natAbs (T_pos k)
    have hsc : sc m e = m * ((T (100 - k) : Nat) : Int) := by unfold sc; congr 3; omega
    have hHX : HX = ((T k : Nat) : Int) * ((T (100 - k) : Nat) : Int) := by unfold HX; rw [← T_cast_mul]; congr 2; omega
    have hr0 : m < 0 → m.natAbs % T k ≠ 0 := by
      intro hm
      rcases h with ⟨h1, _⟩ | ⟨_, _, h3, _, _⟩
      · omega
      · exact mod_T_ne h3 hk0
    have ht := T_pos (100 - k)
    unfold floorN
    rw [hsc, hHX]
    generalize T (100 - k) = t at *
    generalize m.natAbs / T k = q at *
    generalize m.natAbs % T k = r at *
    generalize T k = u at *
    have htI : (0 : Int) < (t : Int) := by omega
    have hrt : (r : Int) * (t : Int) < (u : Int) * (t : Int) := Int.mul_lt_mul_of_pos_right (by omega) htI
    have hrp : 0 ≤ (r : Int) * (t : Int) := Int.mul_nonneg (by omega) (by omega)
    by_cases hm : m < 0
    · have hmr : m = -((u : Int) * (q : Int) + (r : Int)) := by rw [← Int.natCast_mul]; omega
      have hr1 : 0 < (r : Int) * (t : Int) := Int.mul_pos (by have := hr0 hm; omega) htI
      rw [if_pos hm, decide_eq_true hm]
      have e1 : sg true (q + 1) * ((u : Int) * (t : Int)) = -((q : Int) * ((u : Int) * (t : Int))) - (u : Int) * (t : Int) := by
        simp only [sg, if_true]; rw [Int.neg_mul, Int.natCast_add, Int.add_mul]; simp; omega
      have e2 : m * (t : Int) = -((q : Int) * ((u : Int) * (t : Int))) - (r : Int) * (t : Int) := by
        rw [hmr, Int.neg_mul, Int.add_mul, Int.mul_comm (u : Int) (q : Int), Int.mul_assoc]; omega
      rw [e1, e2]
      omega
    · have hmr : m = (u : Int) * (q : Int) + (r : Int) := by rw [← Int.natCast_mul]; omega
      rw [if_neg hm, show decide (m < 0) = false by simp [hm]]
      have e1 : sg false q * ((u : Int) * (t : Int)) = (q : Int) * ((u : Int) * (t : Int)) := by simp [sg]
      have e2 : m * (t : Int) = (q : Int) * ((u : Int) * (t : Int)) + (r : Int) * (t : Int) := by
        rw [hmr, Int.add_mul, Int.mul_comm (u : Int) (q : Int), Int.mul_assoc]
      rw [e1, e2]
      omega
theorem int_go : ∀ (k : Nat) (n : Int), (n * (T k : Nat)).natAbs ≤ 1000000000000000 → intGo n k = some (n * (T k : Nat))
  | 0, n, _ => by simp [intGo, T]
  | k + 1, n, h => by
    have h1 : n * ((T (k + 1) : Nat) : Int) = n * 10 * ((T k : Nat) : Int) := by rw [T_succ, Int.natCast_mul, ← Int.mul_assoc]; rfl
    rw [h1] at h ⊢
    have h2 : n.natAbs * 10 ≤ 1000000000000000 := by
      have h3 : (n * 10 * ((T k : Nat) : Int)).natAbs = n.natAbs * 10 * T k := by rw [Int.natAbs_mul, Int.natAbs_mul, Int.natAbs_natCast]; rfl
      rw [h3] at h
      exact Nat.le_trans (Nat.le_mul_of_pos_right _ (T_pos k)) h
    rw [intGo, if_neg (by omega)]
    exact int_go k (n * 10) h
theorem sc_whole {m e : Int} (h : 0 ≤ e) : sc m e = m * (T e.toNat : Nat) * HX := by
  unfold sc HX
  rw [Int.mul_assoc, ← T_cast_mul]; congr 3; omega
theorem rt_p14 : Rt 1 14 := Or.inr ⟨by decide, by decide, by decide, by decide, by
  rw [show (1 : Int).natAbs = 1 from rfl, show nd 1 = 1 from nd_eq (k := 0) (by decide) (by decide)]; decide⟩
theorem rt_m14 : Rt (-1) 14 := Rt_neg rt_p14
theorem sc_p14 : sc 1 14 = 100000000000000 * HX := by
  rw [sc_whole (by decide)]; congr 1
theorem sc_m14 : sc (-1) 14 = -(100000000000000 * HX) := by rw [sc_neg, sc_p14]
/-- All that the law asks of a number below 10 to the power 14. -/
theorem floors_all {m e : Int} (h : Rt m e) (h1 : cmpS m e 1 14 < 0) (h2 : 0 < cmpS m e (-1) 14) :
    ∃ F : Int, intS (floorS m e).1 (floorS m e).2 = some F ∧ -100000000000000 ≤ F ∧ (∃ g, addS (floorS m e).1 (floorS m e).2 1 0 = some g ∧ cmpS m e g.1 g.2 < 0) ∧ cmpS (floorS m e).1 (floorS m e).2 m e ≤ 0 ∧ floorS (floorS m e).1 (floorS m e).2 = floorS m e ∧ roundS (floorS m e).1 (floorS m e).2 0 = floorS m e := by
  obtain ⟨f1, f2, f3, f4⟩ := floor_spec h
  have hH := HX_pos
  have a1 := (cmp_lt h rt_p14).1 h1
  have a2 : sc (-1) 14 < sc m e := by
    have := (cmp_le h rt_m14).2
    omega
  rw [sc_p14] at a1
  rw [sc_m14] at a2
  generalize hf : floorS m e = f at *
  obtain ⟨fm, fe⟩ := f
  simp only at *
  have hF := sc_whole (m := fm) f2
  rw [hF] at f3 f4
  generalize hFF : fm * ((T fe.toNat : Nat) : Int) = F at *
  have b1 : F < 100000000000000 := by
    have : F * HX < 100000000000000 * HX := by omega
    exact Int.lt_of_mul_lt_mul_right this (Int.le_of_lt hH)
  have b2 : -100000000000000 ≤ F := by
    have : (-100000000000001) * HX < F * HX := by
      rw [Int.neg_mul, show (100000000000001 : Int) * HX = 100000000000000 * HX + HX by rw [show (100000000000001 : Int) = 100000000000000 + 1 from rfl, Int.add_mul, Int.one_mul]]
      omega
    have := Int.lt_of_mul_lt_mul_right this (Int.le_of_lt hH)
    omega
  refine ⟨F, ?_, b2, ?_, ?_, ?_, ?_⟩
  · unfold intS
    rw [if_neg (by rintro (h3 | h3); exact h3 f1; omega), int_go _ _ (by rw [hFF]; omega), hFF]
  · have hT15 : T 15 = 1000000000000000 := by decide
    have hnd : nd (F + 1).natAbs ≤ 15 := (nd_le_iff _ _).2 (by omega)
    obtain ⟨w1, w2, _⟩ := whole_sc (neg := decide (F + 1 < 0)) hnd
    have hadd : addS fm fe 1 0 = some (sg (decide (F + 1 < 0)) (trim (F + 1).natAbs 0).1, (trim (F + 1).natAbs 0).2) := by
      unfold addS
      rw [if_pos ⟨f1, rt_one⟩, show min fe 0 = 0 by omega]
      have hs : sumI fm fe 1 0 = F + 1 := by
        unfold sumI
        rw [show min fe 0 = 0 by omega, show (fe - 0).toNat = fe.toNat by omega, hFF]; rfl
      rw [hs]
      exact fin_whole hnd
    refine ⟨_, hadd, ?_⟩
    refine (cmp_lt h w1).2 ?_
    show sc m e < sc (sg (decide (F + 1 < 0)) (trim (F + 1).natAbs 0).1) (trim (F + 1).natAbs 0).2
    rw [w2, sg_nat, Int.add_mul, Int.one_mul]
    exact f4
  · exact (cmp_le f1 h).2 (by rw [hF]; exact f3)
  · unfold floorS; rw [if_neg (by simpa using f1), if_pos f2]
  · rcases round_cases (p := 0) f1 with ⟨h3, _⟩ | ⟨_, _, hr⟩ | ⟨_, _, h3, _⟩
    · omega
    · exact hr
    · omega
set_option maxRecDepth 100000 in
set_option maxHeartbeats 8000000 in
theorem numFloors_any (m ex : Int) (w : World) (htab : Tab w) (hm : I64 m) :
    Calls Tryd.prog 11 #[NV m ex] w fun e w' => e = .returned (.bool true) ∧ Ext w w' := by
  have HT := Lib.hid htab
  clear htab
  by_cases h : Rt m ex
  · have r1 := rtB_yes h
    obtain ⟨f1, f2, _, _⟩ := floor_spec h
    have fl := fun W => floor_any m ex W hm
    have fi := fun W => int_any (floorS m ex).1 (floorS m ex).2 W (Rt_i64 f1).1
    have k1 := fun W => rcmp_any m ex 1 14 W hm (Rt_i64 rt_p14).1
    have k2 := fun W => rcmp_any m ex (-1) 14 W hm (Rt_i64 rt_m14).1
    by_cases hA : 0 ≤ cmpS m ex 1 14
    · generalize cmpS m ex 1 14 = C1 at *
      generalize intS (floorS m ex).1 (floorS m ex).2 = I at *
      generalize (floorS m ex).1 = x1 at *
      generalize (floorS m ex).2 = x2 at *
      clear h f1 k2
      go_enter Tryd.func11, Tryd.ntmps11
      go_wp2_with (first | (go_at_call 14; (with_reducible refine (awake_any _ (HT.out.ext (by repeat (first | with_reducible exact Ext.refl _ | with_reducible apply Ext.drew | with_reducible apply Ext.alloc | with_reducible apply Ext.more_)))).mono ?_); rintro e w' ⟨rfl, hbx⟩; obtain ⟨osx, dx, rfl⟩ := hbx.more) | (go_at_call 18; (with_reducible refine (rright_rt _ _ _ (by assumption)).mono ?_); rintro e w' ⟨rfl, hbr⟩; obtain ⟨osr, dr, rfl⟩ := hbr.more) | (go_at_call 27; (with_reducible refine (fl _).mono ?_); rintro e w' ⟨rfl, hbx⟩; obtain ⟨osx, dx, rfl⟩ := hbx.more) | (go_at_call 23; (with_reducible refine (fi _).mono ?_); rintro e w' ⟨rfl, hbx⟩; obtain ⟨osx, dx, rfl⟩ := hbx.more) | (go_at_call 42; (with_reducible refine (k1 _).mono ?_); rintro e w' ⟨rfl, hbx⟩; obtain ⟨osx, dx, rfl⟩ := hbx.more))
      go_ret
      exact ⟨rfl, by repeat (first | with_reducible exact Ext.refl _ | with_reducible apply Ext.drew | with_reducible apply Ext.alloc | with_reducible apply Ext.more_)⟩
    · by_cases hB : cmpS m ex (-1) 14 ≤ 0
      · generalize cmpS m ex 1 14 = C1 at *
        generalize cmpS m ex (-1) 14 = C2 at *
        generalize intS (floorS m ex).1 (floorS m ex).2 = I at *
        generalize (floorS m ex).1 = x1 at *
        generalize (floorS m ex).2 = x2 at *
        clear h f1
        go_enter Tryd.func11, Tryd.ntmps11
        go_wp2_with (first | (go_at_call 14; (with_reducible refine (awake_any _ (HT.out.ext (by repeat (first | with_reducible exact Ext.refl _ | with_reducible apply Ext.drew | with_reducible apply Ext.alloc | with_reducible apply Ext.more_)))).mono ?_); rintro e w' ⟨rfl, hbx⟩; obtain ⟨osx, dx, rfl⟩ := hbx.more) | (go_at_call 18; (with_reducible refine (rright_rt _ _ _ (by assumption)).mono ?_); rintro e w' ⟨rfl, hbr⟩; obtain ⟨osr, dr, rfl⟩ := hbr.more) | (go_at_call 27; (with_reducible refine (fl _).mono ?_); rintro e w' ⟨rfl, hbx⟩; obtain ⟨osx, dx, rfl⟩ := hbx.more) | (go_at_call 23; (with_reducible refine (fi _).mono ?_); rintro e w' ⟨rfl, hbx⟩; obtain ⟨osx, dx, rfl⟩ := hbx.more) | (go_at_call_of 42 (Value.agg #[Value.int IntKind.i64 1, Value.int IntKind.i64 14]); (with_reducible refine (k1 _).mono ?_); rintro e w' ⟨rfl, hbx⟩; obtain ⟨osx, dx, rfl⟩ := hbx.more) | (go_at_call 42; (with_reducible refine (k2 _).mono ?_); rintro e w' ⟨rfl, hbx⟩; obtain ⟨osx, dx, rfl⟩ := hbx.more))
        go_ret
        exact ⟨rfl, by repeat (first | with_reducible exact Ext.refl _ | with_reducible apply Ext.drew | with_reducible apply Ext.alloc | with_reducible apply Ext.more_)⟩
      · obtain ⟨F, hI, hF, ⟨g, hg, hgl⟩, hle, hfl, hro⟩ := floors_all h (by omega) (by omega)
        have ad := fun W hW => add_any (floorS m ex).1 (floorS m ex).2 1 0 W hW (Rt_i64 f1).1 (Rt_i64 rt_one).1
        rw [hg] at ad
        have ad : ∀ W, Tab W → Calls Tryd.prog 36 #[NV (floorS m ex).1 (floorS m ex).2, NV 1 0] W fun e w' => e = .returned (.tuple #[NV g.1 g.2, .bool true]) ∧ Ext W w' := ad
        rw [hI] at fi
        have k3 := fun W => cmp_any (floorS m ex).1 (floorS m ex).2 m ex W (Rt_i64 f1).1 hm
        have k4 := fun W => cmp_any m ex g.1 g.2 W hm (by
          have := add_rt (floorS m ex).1 (floorS m ex).2 1 0
          rw [hg] at this
          exact (Rt_i64 this).1)
        have fl2 := fun W => floor_any (floorS m ex).1 (floorS m ex).2 W (Rt_i64 f1).1
        rw [hfl] at fl2
        have ro := fun W => round_all (floorS m ex).1 (floorS m ex).2 0 W (Rt_i64 f1).1 ⟨by decide, by decide⟩
        rw [hro] at ro
        generalize cmpS m ex 1 14 = C1 at *
        generalize cmpS m ex (-1) 14 = C2 at *
        generalize cmpS (floorS m ex).1 (floorS m ex).2 m ex = C3 at *
        generalize cmpS m ex g.1 g.2 = C4 at *
        generalize (floorS m ex).1 = x1 at *
        generalize (floorS m ex).2 = x2 at *
        obtain ⟨g1, g2⟩ := g
        have n1 : decide ((-100000000000000 : Int) ≤ F) = true := by simp [hF]
        have n2 : decide (C3 ≤ 0) = true := by simp [hle]
        have n3 : decide (C4 < 0) = true := by simp [hgl]
        clear h f1 hI hg hF hfl hro
        go_enter Tryd.func11, Tryd.ntmps11
        go_upto_region 10 with (first | (go_at_call 14; (with_reducible refine (awake_any _ (HT.out.ext (by repeat (first | with_reducible exact Ext.refl _ | with_reducible apply Ext.drew | with_reducible apply Ext.alloc | with_reducible apply Ext.more_)))).mono ?_); rintro e w' ⟨rfl, hbx⟩; obtain ⟨osx, dx, rfl⟩ := hbx.more) | (go_at_call 18; (with_reducible refine (rright_rt _ _ _ (by assumption)).mono ?_); rintro e w' ⟨rfl, hbr⟩; obtain ⟨osr, dr, rfl⟩ := hbr.more) | (go_at_call 27; (with_reducible refine (fl _).mono ?_); rintro e w' ⟨rfl, hbx⟩; obtain ⟨osx, dx, rfl⟩ := hbx.more) | (go_at_call 23; (with_reducible refine (fi _).mono ?_); rintro e w' ⟨rfl, hbx⟩; obtain ⟨osx, dx, rfl⟩ := hbx.more) | (go_at_call_of 42 (Value.agg #[Value.int IntKind.i64 1, Value.int IntKind.i64 14]); (with_reducible refine (k1 _).mono ?_); rintro e w' ⟨rfl, hbx⟩; obtain ⟨osx, dx, rfl⟩ := hbx.more) | (go_at_call 42; (with_reducible refine (k2 _).mono ?_); rintro e w' ⟨rfl, hbx⟩; obtain ⟨osx, dx, rfl⟩ := hbx.more) | (go_at_call 36; (with_reducible refine (ad _ (HT.out.ext (by repeat (first | with_reducible exact Ext.refl _ | with_reducible apply Ext.drew | with_reducible apply Ext.alloc | with_reducible apply Ext.more_)))).mono ?_); rintro e w' ⟨rfl, hbx⟩; obtain ⟨osx, dx, rfl⟩ := hbx.more))
        refine wp_plan (S := Ext _) [(0, 0), (1, 0), (2, 0), (3, 0), (4, 0), (5, 0), (6, 0), (7, 0), (8, 0), (9, 0), (10, 0), (11, 1), (12, 0), (13, 0), (14, 0), (15, 0), (16, 0), (17, 1), (18, 0), (19, 0), (20, 0), (21, 0), (23, 0), (22, 1), (24, 0), (25, 0), (26, 0), (27, 0), (29, 0), (28, 1), (30, 0), (31, 0), (32, 0)] [] (by kernel_rfl) (by kernel_rfl) (by kernel_rfl) (fun _ _ d _ _ h => by cases d <;> exact h) (Ext.drew (Ext.refl _)) ?_
        (refine wpPl_read (v := ?_) rfl ?_ (fun w1 h1 => ?_) ?_; rotate_left 1; rfl; (obtain ⟨os1, d1, rfl⟩ := h1.more; go_simp; first | done | rfl))
        try simp only [Act.put, List.setIfInBounds_toArray, List.set_cons_zero, List.set_cons_succ]
        (refine wpPl_read (v := ?_) rfl ?_ (fun w1 h1 => ?_) ?_; rotate_left 1; rfl; (obtain ⟨os1, d1, rfl⟩ := h1.more; go_simp; first | done | rfl))
        try simp only [Act.put, List.setIfInBounds_toArray, List.set_cons_zero, List.set_cons_succ]
        first | (refine wpPl_skip rfl rfl ?_) | (refine wpPl_read (v := ?_) rfl ?_ (fun w1 h1 => ?_) ?_; rotate_left 1; rfl; (obtain ⟨os1, d1, rfl⟩ := h1.more; go_simp; first | done | rfl)) | (refine wpPl_gread (v := ?_) (c := ?_) rfl rfl rfl rfl ?_ (fun hc w1 h1 => ?_) ?_; rotate_left 2; (first | exact gc_t _ | exact gc_f _ | exact gc_gt _ _ | exact gc_gf _ _); (obtain ⟨os1, d1, rfl⟩ := h1.more; (try simp only [gv_of hc]); (try (have hc1 := and_l hc; (try simp only [gv_of hc1]); (try (have hc2 := and_l hc1; (try simp only [gv_of hc2]))))); go_simp; first | done | rfl))
        try simp only [Act.put, List.setIfInBounds_toArray, List.set_cons_zero, List.set_cons_succ]
        first | (refine wpPl_pick_and rfl rfl rfl rfl rfl rfl ?_) | (refine wpPl_pick_or rfl rfl rfl rfl rfl rfl ?_) | (refine wpPl_read (v := ?_) rfl ?_ (fun w1 h1 => ?_) ?_; rotate_left 1; rfl; (obtain ⟨os1, d1, rfl⟩ := h1.more; go_simp; first | done | rfl))
        try simp only [Act.put, List.setIfInBounds_toArray, List.set_cons_zero, List.set_cons_succ]
        (refine wpPl_read (v := ?_) rfl ?_ (fun w1 h1 => ?_) ?_; rotate_left 1; rfl; (obtain ⟨os1, d1, rfl⟩ := h1.more; go_simp; first | done | rfl))
        try simp only [Act.put, List.setIfInBounds_toArray, List.set_cons_zero, List.set_cons_succ]
        first | (refine wpPl_skip rfl rfl ?_) | (refine wpPl_read (v := ?_) rfl ?_ (fun w1 h1 => ?_) ?_; rotate_left 1; rfl; (obtain ⟨os1, d1, rfl⟩ := h1.more; go_simp; first | done | rfl)) | (refine wpPl_gread (v := ?_) (c := ?_) rfl rfl rfl rfl ?_ (fun hc w1 h1 => ?_) ?_; rotate_left 2; (first | exact gc_t _ | exact gc_f _ | exact gc_gt _ _ | exact gc_gf _ _); (obtain ⟨os1, d1, rfl⟩ := h1.more; (try simp only [gv_of hc]); (try (have hc1 := and_l hc; (try simp only [gv_of hc1]); (try (have hc2 := and_l hc1; (try simp only [gv_of hc2]))))); go_simp; first | done | rfl))
        try simp only [Act.put, List.setIfInBounds_toArray, List.set_cons_zero, List.set_cons_succ]
        first | (refine wpPl_skip rfl rfl ?_) | (refine wpPl_read (v := ?_) rfl ?_ (fun w1 h1 => ?_) ?_; rotate_left 1; rfl; (obtain ⟨os1, d1, rfl⟩ := h1.more; go_simp; first | done | rfl)) | (refine wpPl_gread (v := ?_) (c := ?_) rfl rfl rfl rfl ?_ (fun hc w1 h1 => ?_) ?_; rotate_left 2; (first | exact gc_t _ | exact gc_f _ | exact gc_gt _ _ | exact gc_gf _ _); (obtain ⟨os1, d1, rfl⟩ := h1.more; (try simp only [gv_of hc]); (try (have hc1 := and_l hc; (try simp only [gv_of hc1]); (try (have hc2 := and_l hc1; (try simp only [gv_of hc2]))))); go_simp; first | done | rfl))
        try simp only [Act.put, List.setIfInBounds_toArray, List.set_cons_zero, List.set_cons_succ]
        first | (refine wpPl_pick_and rfl rfl rfl rfl rfl rfl ?_) | (refine wpPl_pick_or rfl rfl rfl rfl rfl rfl ?_) | (refine wpPl_read (v := ?_) rfl ?_ (fun w1 h1 => ?_) ?_; rotate_left 1; rfl; (obtain ⟨os1, d1, rfl⟩ := h1.more; go_simp; first | done | rfl))
        try simp only [Act.put, List.setIfInBounds_toArray, List.set_cons_zero, List.set_cons_succ]
        (refine wpPl_read (v := ?_) rfl ?_ (fun w1 h1 => ?_) ?_; rotate_left 1; rfl; (obtain ⟨os1, d1, rfl⟩ := h1.more; go_simp; first | done | rfl))
        try simp only [Act.put, List.setIfInBounds_toArray, List.set_cons_zero, List.set_cons_succ]
        first | (refine wpPl_skip rfl rfl ?_) | (refine wpPl_read (v := ?_) rfl ?_ (fun w1 h1 => ?_) ?_; rotate_left 1; rfl; (obtain ⟨os1, d1, rfl⟩ := h1.more; go_simp; first | done | rfl)) | (refine wpPl_gread (v := ?_) (c := ?_) rfl rfl rfl rfl ?_ (fun hc w1 h1 => ?_) ?_; rotate_left 2; (first | exact gc_t _ | exact gc_f _ | exact gc_gt _ _ | exact gc_gf _ _); (obtain ⟨os1, d1, rfl⟩ := h1.more; (try simp only [gv_of hc]); (try (have hc1 := and_l hc; (try simp only [gv_of hc1]); (try (have hc2 := and_l hc1; (try simp only [gv_of hc2]))))); go_simp; first | done | rfl))
        try simp only [Act.put, List.setIfInBounds_toArray, List.set_cons_zero, List.set_cons_succ]
        first | (refine wpPl_skip rfl rfl ?_) | (refine wpPl_read (v := ?_) rfl ?_ (fun w1 h1 => ?_) ?_; rotate_left 1; rfl; (obtain ⟨os1, d1, rfl⟩ := h1.more; go_simp; first | done | rfl)) | (refine wpPl_gread (v := ?_) (c := ?_) rfl rfl rfl rfl ?_ (fun hc w1 h1 => ?_) ?_; rotate_left 2; (first | exact gc_t _ | exact gc_f _ | exact gc_gt _ _ | exact gc_gf _ _); (obtain ⟨os1, d1, rfl⟩ := h1.more; (try simp only [gv_of hc]); (try (have hc1 := and_l hc; (try simp only [gv_of hc1]); (try (have hc2 := and_l hc1; (try simp only [gv_of hc2]))))); go_simp; first | done | rfl))
        try simp only [Act.put, List.setIfInBounds_toArray, List.set_cons_zero, List.set_cons_succ]
        (refine wpPl_eff rfl ?_ (fun K hK => ?_); (first | with_reducible rfl | rfl | (go_simp; done)); go_simp; (go_at_call 33; (with_reducible refine (k3 _).mono ?_); rintro e w' ⟨rfl, hbx⟩; obtain ⟨osx, dx, rfl⟩ := hbx.more); refine hK _ _ ?_ ?_; (repeat (first | with_reducible exact Ext.refl _ | with_reducible exact ext_d _ _ _ _ | with_reducible exact ext_app _ _ _ _ _ | with_reducible exact ext_app2 _ _ _ _ _ _ | with_reducible exact ext_app3 _ _ _ _ _ _ _ | with_reducible exact ext_app4 _ _ _ _ _ _ _ _ | with_reducible exact ext_app5 _ _ _ _ _ _ _ _ _ | ((with_reducible refine ext_suffix ⟨_, ?_⟩); (try simp only [Array.append_assoc]); rfl) | with_reducible apply Ext.drew | with_reducible apply Ext.alloc | with_reducible apply Ext.more_ | apply Ext.drew | apply Ext.alloc | apply Ext.more_)))
        try simp only [Act.put, List.setIfInBounds_toArray, List.set_cons_zero, List.set_cons_succ]
        first | (refine wpPl_skip rfl rfl ?_) | (refine wpPl_read (v := ?_) rfl ?_ (fun w1 h1 => ?_) ?_; rotate_left 1; rfl; (obtain ⟨os1, d1, rfl⟩ := h1.more; go_simp; first | done | rfl)) | (refine wpPl_gread (v := ?_) (c := ?_) rfl rfl rfl rfl ?_ (fun hc w1 h1 => ?_) ?_; rotate_left 2; (first | exact gc_t _ | exact gc_f _ | exact gc_gt _ _ | exact gc_gf _ _); (obtain ⟨os1, d1, rfl⟩ := h1.more; (try simp only [gv_of hc]); (try (have hc1 := and_l hc; (try simp only [gv_of hc1]); (try (have hc2 := and_l hc1; (try simp only [gv_of hc2]))))); go_simp; first | done | rfl))
        try simp only [Act.put, List.setIfInBounds_toArray, List.set_cons_zero, List.set_cons_succ]
        first | (refine wpPl_pick_and rfl rfl rfl rfl rfl rfl ?_) | (refine wpPl_pick_or rfl rfl rfl rfl rfl rfl ?_) | (refine wpPl_read (v := ?_) rfl ?_ (fun w1 h1 => ?_) ?_; rotate_left 1; rfl; (obtain ⟨os1, d1, rfl⟩ := h1.more; go_simp; first | done | rfl))
        try simp only [Act.put, List.setIfInBounds_toArray, List.set_cons_zero, List.set_cons_succ]
        (refine wpPl_read (v := ?_) rfl ?_ (fun w1 h1 => ?_) ?_; rotate_left 1; rfl; (obtain ⟨os1, d1, rfl⟩ := h1.more; go_simp; first | done | rfl))
        try simp only [Act.put, List.setIfInBounds_toArray, List.set_cons_zero, List.set_cons_succ]
        first | (refine wpPl_skip rfl rfl ?_) | (refine wpPl_read (v := ?_) rfl ?_ (fun w1 h1 => ?_) ?_; rotate_left 1; rfl; (obtain ⟨os1, d1, rfl⟩ := h1.more; go_simp; first | done | rfl)) | (refine wpPl_gread (v := ?_) (c := ?_) rfl rfl rfl rfl ?_ (fun hc w1 h1 => ?_) ?_; rotate_left 2; (first | exact gc_t _ | exact gc_f _ | exact gc_gt _ _ | exact gc_gf _ _); (obtain ⟨os1, d1, rfl⟩ := h1.more; (try simp only [gv_of hc]); (try (have hc1 := and_l hc; (try simp only [gv_of hc1]); (try (have hc2 := and_l hc1; (try simp only [gv_of hc2]))))); go_simp; first | done | rfl))
        try simp only [Act.put, List.setIfInBounds_toArray, List.set_cons_zero, List.set_cons_succ]
        first | (refine wpPl_skip rfl rfl ?_) | (refine wpPl_read (v := ?_) rfl ?_ (fun w1 h1 => ?_) ?_; rotate_left 1; rfl; (obtain ⟨os1, d1, rfl⟩ := h1.more; go_simp; first | done | rfl)) | (refine wpPl_gread (v := ?_) (c := ?_) rfl rfl rfl rfl ?_ (fun hc w1 h1 => ?_) ?_; rotate_left 2; (first | exact gc_t _ | exact gc_f _ | exact gc_gt _ _ | exact gc_gf _ _); (obtain ⟨os1, d1, rfl⟩ := h1.more; (try simp only [gv_of hc]); (try (have hc1 := and_l hc; (try simp only [gv_of hc1]); (try (have hc2 := and_l hc1; (try simp only [gv_of hc2]))))); go_simp; first | done | rfl))
        try simp only [Act.put, List.setIfInBounds_toArray, List.set_cons_zero, List.set_cons_succ]
        (refine wpPl_eff rfl ?_ (fun K hK => ?_); (first | with_reducible rfl | rfl | (go_simp; done)); go_simp; (go_at_call 33; (with_reducible refine (k4 _).mono ?_); rintro e w' ⟨rfl, hbx⟩; obtain ⟨osx, dx, rfl⟩ := hbx.more); refine hK _ _ ?_ ?_; (repeat (first | with_reducible exact Ext.refl _ | with_reducible exact ext_d _ _ _ _ | with_reducible exact ext_app _ _ _ _ _ | with_reducible exact ext_app2 _ _ _ _ _ _ | with_reducible exact ext_app3 _ _ _ _ _ _ _ | with_reducible exact ext_app4 _ _ _ _ _ _ _ _ | with_reducible exact ext_app5 _ _ _ _ _ _ _ _ _ | ((with_reducible refine ext_suffix ⟨_, ?_⟩); (try simp only [Array.append_assoc]); rfl) | with_reducible apply Ext.drew | with_reducible apply Ext.alloc | with_reducible apply Ext.more_ | apply Ext.drew | apply Ext.alloc | apply Ext.more_)))
        try simp only [Act.put, List.setIfInBounds_toArray, List.set_cons_zero, List.set_cons_succ]
        first | (refine wpPl_skip rfl rfl ?_) | (refine wpPl_read (v := ?_) rfl ?_ (fun w1 h1 => ?_) ?_; rotate_left 1; rfl; (obtain ⟨os1, d1, rfl⟩ := h1.more; go_simp; first | done | rfl)) | (refine wpPl_gread (v := ?_) (c := ?_) rfl rfl rfl rfl ?_ (fun hc w1 h1 => ?_) ?_; rotate_left 2; (first | exact gc_t _ | exact gc_f _ | exact gc_gt _ _ | exact gc_gf _ _); (obtain ⟨os1, d1, rfl⟩ := h1.more; (try simp only [gv_of hc]); (try (have hc1 := and_l hc; (try simp only [gv_of hc1]); (try (have hc2 := and_l hc1; (try simp only [gv_of hc2]))))); go_simp; first | done | rfl))
        try simp only [Act.put, List.setIfInBounds_toArray, List.set_cons_zero, List.set_cons_succ]
        first | (refine wpPl_pick_and rfl rfl rfl rfl rfl rfl ?_) | (refine wpPl_pick_or rfl rfl rfl rfl rfl rfl ?_) | (refine wpPl_read (v := ?_) rfl ?_ (fun w1 h1 => ?_) ?_; rotate_left 1; rfl; (obtain ⟨os1, d1, rfl⟩ := h1.more; go_simp; first | done | rfl))
        try simp only [Act.put, List.setIfInBounds_toArray, List.set_cons_zero, List.set_cons_succ]
        (refine wpPl_read (v := ?_) rfl ?_ (fun w1 h1 => ?_) ?_; rotate_left 1; rfl; (obtain ⟨os1, d1, rfl⟩ := h1.more; go_simp; first | done | rfl))
        try simp only [Act.put, List.setIfInBounds_toArray, List.set_cons_zero, List.set_cons_succ]
        first | (refine wpPl_skip rfl rfl ?_) | (refine wpPl_read (v := ?_) rfl ?_ (fun w1 h1 => ?_) ?_; rotate_left 1; rfl; (obtain ⟨os1, d1, rfl⟩ := h1.more; go_simp; first | done | rfl)) | (refine wpPl_gread (v := ?_) (c := ?_) rfl rfl rfl rfl ?_ (fun hc w1 h1 => ?_) ?_; rotate_left 2; (first | exact gc_t _ | exact gc_f _ | exact gc_gt _ _ | exact gc_gf _ _); (obtain ⟨os1, d1, rfl⟩ := h1.more; (try simp only [gv_of hc]); (try (have hc1 := and_l hc; (try simp only [gv_of hc1]); (try (have hc2 := and_l hc1; (try simp only [gv_of hc2]))))); go_simp; first | done | rfl))
        try simp only [Act.put, List.setIfInBounds_toArray, List.set_cons_zero, List.set_cons_succ]
        first | (refine wpPl_skip rfl rfl ?_) | (refine wpPl_read (v := ?_) rfl ?_ (fun w1 h1 => ?_) ?_; rotate_left 1; rfl; (obtain ⟨os1, d1, rfl⟩ := h1.more; go_simp; first | done | rfl)) | (refine wpPl_gread (v := ?_) (c := ?_) rfl rfl rfl rfl ?_ (fun hc w1 h1 => ?_) ?_; rotate_left 2; (first | exact gc_t _ | exact gc_f _ | exact gc_gt _ _ | exact gc_gf _ _); (obtain ⟨os1, d1, rfl⟩ := h1.more; (try simp only [gv_of hc]); (try (have hc1 := and_l hc; (try simp only [gv_of hc1]); (try (have hc2 := and_l hc1; (try simp only [gv_of hc2]))))); go_simp; first | done | rfl))
        try simp only [Act.put, List.setIfInBounds_toArray, List.set_cons_zero, List.set_cons_succ]
        (refine wpPl_eff rfl ?_ (fun K hK => ?_); (first | with_reducible rfl | rfl | (go_simp; done)); go_simp; (go_at_call 27; (with_reducible refine (fl2 _).mono ?_); rintro e w' ⟨rfl, hbx⟩; obtain ⟨osx, dx, rfl⟩ := hbx.more); refine hK _ _ ?_ ?_; (repeat (first | with_reducible exact Ext.refl _ | with_reducible exact ext_d _ _ _ _ | with_reducible exact ext_app _ _ _ _ _ | with_reducible exact ext_app2 _ _ _ _ _ _ | with_reducible exact ext_app3 _ _ _ _ _ _ _ | with_reducible exact ext_app4 _ _ _ _ _ _ _ _ | with_reducible exact ext_app5 _ _ _ _ _ _ _ _ _ | ((with_reducible refine ext_suffix ⟨_, ?_⟩); (try simp only [Array.append_assoc]); rfl) | with_reducible apply Ext.drew | with_reducible apply Ext.alloc | with_reducible apply Ext.more_ | apply Ext.drew | apply Ext.alloc | apply Ext.more_)))
        try simp only [Act.put, List.setIfInBounds_toArray, List.set_cons_zero, List.set_cons_succ]
        first | (refine wpPl_skip rfl rfl ?_) | (refine wpPl_read (v := ?_) rfl ?_ (fun w1 h1 => ?_) ?_; rotate_left 1; rfl; (obtain ⟨os1, d1, rfl⟩ := h1.more; go_simp; first | done | rfl)) | (refine wpPl_gread (v := ?_) (c := ?_) rfl rfl rfl rfl ?_ (fun hc w1 h1 => ?_) ?_; rotate_left 2; (first | exact gc_t _ | exact gc_f _ | exact gc_gt _ _ | exact gc_gf _ _); (obtain ⟨os1, d1, rfl⟩ := h1.more; (try simp only [gv_of hc]); (try (have hc1 := and_l hc; (try simp only [gv_of hc1]); (try (have hc2 := and_l hc1; (try simp only [gv_of hc2]))))); go_simp; first | done | rfl))
        try simp only [Act.put, List.setIfInBounds_toArray, List.set_cons_zero, List.set_cons_succ]
        first | (refine wpPl_pick_and rfl rfl rfl rfl rfl rfl ?_) | (refine wpPl_pick_or rfl rfl rfl rfl rfl rfl ?_) | (refine wpPl_read (v := ?_) rfl ?_ (fun w1 h1 => ?_) ?_; rotate_left 1; rfl; (obtain ⟨os1, d1, rfl⟩ := h1.more; go_simp; first | done | rfl))
        try simp only [Act.put, List.setIfInBounds_toArray, List.set_cons_zero, List.set_cons_succ]
        (refine wpPl_read (v := ?_) rfl ?_ (fun w1 h1 => ?_) ?_; rotate_left 1; rfl; (obtain ⟨os1, d1, rfl⟩ := h1.more; go_simp; first | done | rfl))
        try simp only [Act.put, List.setIfInBounds_toArray, List.set_cons_zero, List.set_cons_succ]
        first | (refine wpPl_skip rfl rfl ?_) | (refine wpPl_read (v := ?_) rfl ?_ (fun w1 h1 => ?_) ?_; rotate_left 1; rfl; (obtain ⟨os1, d1, rfl⟩ := h1.more; go_simp; first | done | rfl)) | (refine wpPl_gread (v := ?_) (c := ?_) rfl rfl rfl rfl ?_ (fun hc w1 h1 => ?_) ?_; rotate_left 2; (first | exact gc_t _ | exact gc_f _ | exact gc_gt _ _ | exact gc_gf _ _); (obtain ⟨os1, d1, rfl⟩ := h1.more; (try simp only [gv_of hc]); (try (have hc1 := and_l hc; (try simp only [gv_of hc1]); (try (have hc2 := and_l hc1; (try simp only [gv_of hc2]))))); go_simp; first | done | rfl))
        try simp only [Act.put, List.setIfInBounds_toArray, List.set_cons_zero, List.set_cons_succ]
        first | (refine wpPl_skip rfl rfl ?_) | (refine wpPl_read (v := ?_) rfl ?_ (fun w1 h1 => ?_) ?_; rotate_left 1; rfl; (obtain ⟨os1, d1, rfl⟩ := h1.more; go_simp; first | done | rfl)) | (refine wpPl_gread (v := ?_) (c := ?_) rfl rfl rfl rfl ?_ (fun hc w1 h1 => ?_) ?_; rotate_left 2; (first | exact gc_t _ | exact gc_f _ | exact gc_gt _ _ | exact gc_gf _ _); (obtain ⟨os1, d1, rfl⟩ := h1.more; (try simp only [gv_of hc]); (try (have hc1 := and_l hc; (try simp only [gv_of hc1]); (try (have hc2 := and_l hc1; (try simp only [gv_of hc2]))))); go_simp; first | done | rfl))
        try simp only [Act.put, List.setIfInBounds_toArray, List.set_cons_zero, List.set_cons_succ]
        (refine wpPl_eff rfl ?_ (fun K hK => ?_); (first | with_reducible rfl | rfl | (go_simp; done)); go_simp; (go_at_call 25; (with_reducible refine (ro _).mono ?_); rintro e w' ⟨rfl, hbx⟩; obtain ⟨osx, dx, rfl⟩ := hbx.more); refine hK _ _ ?_ ?_; (repeat (first | with_reducible exact Ext.refl _ | with_reducible exact ext_d _ _ _ _ | with_reducible exact ext_app _ _ _ _ _ | with_reducible exact ext_app2 _ _ _ _ _ _ | with_reducible exact ext_app3 _ _ _ _ _ _ _ | with_reducible exact ext_app4 _ _ _ _ _ _ _ _ | with_reducible exact ext_app5 _ _ _ _ _ _ _ _ _ | ((with_reducible refine ext_suffix ⟨_, ?_⟩); (try simp only [Array.append_assoc]); rfl) | with_reducible apply Ext.drew | with_reducible apply Ext.alloc | with_reducible apply Ext.more_ | apply Ext.drew | apply Ext.alloc | apply Ext.more_)))
        try simp only [Act.put, List.setIfInBounds_toArray, List.set_cons_zero, List.set_cons_succ]
        first | (refine wpPl_skip rfl rfl ?_) | (refine wpPl_read (v := ?_) rfl ?_ (fun w1 h1 => ?_) ?_; rotate_left 1; rfl; (obtain ⟨os1, d1, rfl⟩ := h1.more; go_simp; first | done | rfl)) | (refine wpPl_gread (v := ?_) (c := ?_) rfl rfl rfl rfl ?_ (fun hc w1 h1 => ?_) ?_; rotate_left 2; (first | exact gc_t _ | exact gc_f _ | exact gc_gt _ _ | exact gc_gf _ _); (obtain ⟨os1, d1, rfl⟩ := h1.more; (try simp only [gv_of hc]); (try (have hc1 := and_l hc; (try simp only [gv_of hc1]); (try (have hc2 := and_l hc1; (try simp only [gv_of hc2]))))); go_simp; first | done | rfl))
        try simp only [Act.put, List.setIfInBounds_toArray, List.set_cons_zero, List.set_cons_succ]
        first | (refine wpPl_pick_and rfl rfl rfl rfl rfl rfl ?_) | (refine wpPl_pick_or rfl rfl rfl rfl rfl rfl ?_) | (refine wpPl_read (v := ?_) rfl ?_ (fun w1 h1 => ?_) ?_; rotate_left 1; rfl; (obtain ⟨os1, d1, rfl⟩ := h1.more; go_simp; first | done | rfl))
        try simp only [Act.put, List.setIfInBounds_toArray, List.set_cons_zero, List.set_cons_succ]
        (refine wpPl_read (v := ?_) rfl ?_ (fun w1 h1 => ?_) ?_; rotate_left 1; rfl; (obtain ⟨os1, d1, rfl⟩ := h1.more; go_simp; first | done | rfl))
        try simp only [Act.put, List.setIfInBounds_toArray, List.set_cons_zero, List.set_cons_succ]
        refine wpPl_nil ?_
        go_wp2
        go_ret
        exact ⟨rfl, by repeat (first | with_reducible exact Ext.refl _ | with_reducible apply Ext.drew | with_reducible apply Ext.alloc | with_reducible apply Ext.more_)⟩
  · have r1 := rtB_no h
    clear h
    go_enter Tryd.func11, Tryd.ntmps11
    go_wp2_with (first | (go_at_call 14; (with_reducible refine (awake_any _ (HT.out.ext (by repeat (first | with_reducible exact Ext.refl _ | with_reducible apply Ext.drew | with_reducible apply Ext.alloc | with_reducible apply Ext.more_)))).mono ?_); rintro e w' ⟨rfl, hbx⟩; obtain ⟨osx, dx, rfl⟩ := hbx.more) | (go_at_call 18; (with_reducible refine (rright_rt _ _ _ (by assumption)).mono ?_); rintro e w' ⟨rfl, hbr⟩; obtain ⟨osr, dr, rfl⟩ := hbr.more))
    go_ret
    exact ⟨rfl, by repeat (first | with_reducible exact Ext.refl _ | with_reducible apply Ext.drew | with_reducible apply Ext.alloc | with_reducible apply Ext.more_)⟩
end Go.Proofs.YtihfiegopnjeiaaDoor
