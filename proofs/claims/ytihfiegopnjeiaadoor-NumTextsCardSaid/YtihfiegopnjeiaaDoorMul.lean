/- num.Mul. -/
import Derived.Test.YtihfiegopnjeiaaDoorDiv64
import Derived.Test.YtihfiegopnjeiaaDoorZeros
import Derived.Test.YtihfiegopnjeiaaDoorSum
import Derived.Test.YtihfiegopnjeiaaDoorAdd
namespace Go.Proofs.YtihfiegopnjeiaaDoor
set_option linter.unusedSimpArgs false
set_option linter.unusedVariables false
open Go.RowKit NM

theorem own_ext_ {w w' : World} {base : Nat} {ty : TypeId} {v : Value} {n : Nat} {xs : List Value} (h : w.ownsRow base ty 1 v n xs) (hx : Ext w w') : w'.ownsRow base ty 1 v n xs := by
  refine ⟨h.1, ?_⟩
  rcases h.2 with h2 | ⟨g, cap, cur, h3, h4, h5, h6⟩
  · exact Or.inl h2
  · exact Or.inr ⟨g, cap, cur, h3, h4, by rw [hx.block (lt_block h5)]; exact h5, h6⟩
theorem one_b8 (l : List Nat) : ∀ u ∈ b8 l, u.oneCell' = true := by
  intro u hu
  obtain ⟨x, _, rfl⟩ := List.mem_map.1 hu
  rfl
theorem mul_val {up lw : Nat} (h : lw < 1000000000000000) : val (dig0 up ++ (dig0 (1000000000000000 + lw)).drop 1) = up * 1000000000000000 + lw ∧ (dig0 (1000000000000000 + lw)).length = 16 ∧ AllD (dig0 up ++ (dig0 (1000000000000000 + lw)).drop 1) := by
  have hT15 : T 15 = 1000000000000000 := by decide
  have hT16 : T 16 = 10000000000000000 := by decide
  have hnd : nd (1000000000000000 + lw) = 16 := nd_eq (k := 15) (by omega) (by rw [show 15 + 1 = 16 from rfl]; omega)
  have hl : (dig0 (1000000000000000 + lw)).length = 16 := by rw [dig0_length, hnd]; rfl
  have ht := (take_val (dig0_all (1000000000000000 + lw)) 1).2
  rw [dig0_val, hl, hT15] at ht
  refine ⟨?_, hl, (dig0_all _).append ((dig0_all _).drop 1)⟩
  rw [val_append, dig0_val, ht, List.length_drop, hl, hT15]
  omega
set_option maxRecDepth 100000 in
set_option maxHeartbeats 2000000 in
theorem mul_no (ma ea mb eb : Int) (w : World) (hma : I64 ma) (hmb : I64 mb) (h : ¬ (Rt ma ea ∧ Rt mb eb)) :
    Calls Tryd.prog 29 #[NV ma ea, NV mb eb] w fun e w' => e = .returned (rnV none) ∧ Ext w w' := by
  by_cases h1 : Rt ma ea
  · have r1 := rtB_yes h1
    have r2 := rtB_no (fun h2 => h ⟨h1, h2⟩)
    clear h h1
    go_enter Tryd.func29, Tryd.ntmps29
    go_wp2_with (go_at_call 17; (with_reducible refine (right_rt _ _ _ (by assumption)).mono ?_); rintro e w' ⟨rfl, hbr⟩; obtain ⟨osr, dr, rfl⟩ := hbr.more)
    exact bodyPost_ret (v := .tuple #[NV 0 0, .bool false]) (by simp [results, Tryd.results29, go_sem]; done) rfl ⟨rfl, by repeat (first | with_reducible exact Ext.refl _ | with_reducible apply Ext.drew | with_reducible apply Ext.alloc | with_reducible apply Ext.more_)⟩
  · have r1 := rtB_no h1
    clear h h1
    go_enter Tryd.func29, Tryd.ntmps29
    go_wp2_with (go_at_call 17; (with_reducible refine (right_rt _ _ _ (by assumption)).mono ?_); rintro e w' ⟨rfl, hbr⟩; obtain ⟨osr, dr, rfl⟩ := hbr.more)
    exact bodyPost_ret (v := .tuple #[NV 0 0, .bool false]) (by simp [results, Tryd.results29, go_sem]; done) rfl ⟨rfl, by repeat (first | with_reducible exact Ext.refl _ | with_reducible apply Ext.drew | with_reducible apply Ext.alloc | with_reducible apply Ext.more_)⟩
theorem sg_ng (ma mb : Int) : sg (ngB ma mb) (ma.natAbs * mb.natAbs) = ma * mb := by
  unfold ngB
  have h := sg_nat ma
  have h' := sg_nat mb
  cases ha : decide (ma < 0) <;> cases hb : decide (mb < 0) <;> rw [ha] at h <;> rw [hb] at h' <;> simp only [sg] at * <;> (conv => rhs; rw [← h, ← h']) <;> simp [Int.neg_mul, Int.mul_neg]
set_option maxRecDepth 100000 in
set_option maxHeartbeats 4000000 in
theorem mul_yes (ma ea mb eb : Int) (w : World) (htab : Tab w) (h1 : Rt ma ea) (h2 : Rt mb eb) :
    Calls Tryd.prog 29 #[NV ma ea, NV mb eb] w fun e w' => e = .returned (rnV (rndI (ma * mb) (ea + eb))) ∧ Ext w w' := by
  obtain ⟨b1, b2, b3⟩ := Rt_bd h1
  obtain ⟨b4, b5, b6⟩ := Rt_bd h2
  have hma : I64 ma := by unfold I64; omega
  have hmb : I64 mb := by unfold I64; omega
  have r1 := rtB_yes h1
  have r2 := rtB_yes h2
  have hsa := fun W => size_nat ma W hma
  have hsb := fun W => size_nat mb W hmb
  rw [← sg_ng, ← rnd_sg]
  unfold ngB
  have hPb : ma.natAbs * mb.natAbs < 1000000000000000000000000000000 := Nat.lt_of_le_of_lt (Nat.mul_le_mul (Nat.le_of_lt_succ (show ma.natAbs < 999999999999999 + 1 from b1)) (Nat.le_of_lt_succ (show mb.natAbs < 999999999999999 + 1 from b4))) (by decide)
  have hmu := fun W => Tryd.bits_Mul64 ma.natAbs mb.natAbs (by omega) (by omega) W
  generalize ma.natAbs = Na at *
  generalize mb.natAbs = Nb at *
  have hdiv := fun W => div64_cut (Na * Nb / 18446744073709551616) (Na * Nb % 18446744073709551616) W (Nat.mod_lt _ (by decide)) (by rw [Nat.div_add_mod']; exact hPb)
  rw [Nat.div_add_mod'] at hdiv
  have hup : Na * Nb / 1000000000000000 < 1000000000000000 := Nat.div_lt_of_lt_mul (Nat.lt_of_lt_of_le hPb (by decide))
  have hlw : Na * Nb % 1000000000000000 < 1000000000000000 := Nat.mod_lt _ (by decide)
  have hPQ : Na * Nb / 1000000000000000 * 1000000000000000 + Na * Nb % 1000000000000000 = Na * Nb := Nat.div_add_mod' _ _
  generalize Na * Nb / 18446744073709551616 = hh at *
  generalize Na * Nb % 18446744073709551616 = ll at *
  generalize Na * Nb / 1000000000000000 = up at *
  generalize Na * Nb % 1000000000000000 = lw at *
  generalize Na * Nb = P at *
  obtain ⟨hmv, hml, hmd⟩ := mul_val (up := up) hlw
  rw [hPQ] at hmv
  have hdg1 := fun W hW => digitsOf_any up (by omega) W hW
  have hdg2 := fun W hW => digitsOf_any (1000000000000000 + lw) (by omega) W hW
  have hl1 : (dig0 up).length ≤ 20 := by rw [dig0_length]; have := (nd_le_iff up 20).2 (Nat.lt_trans hup (by decide)); omega
  have g1 : (1000000000000000 : Int) + (lw : Int) = ((1000000000000000 + lw : Nat) : Int) := by omega
  have g2 : IntKind.u64.wrap ((1000000000000000 + lw : Nat) : Int) = ((1000000000000000 + lw : Nat) : Int) := by rw [IntKind.wrap_u64]; omega
  generalize 1000000000000000 + lw = sm at *
  generalize dig0 up = D1 at *
  generalize dig0 sm = D2 at *
  obtain ⟨i0, hi, hz0', hz1', hz2'⟩ := info_parts info_byte
  generalize hRR : rnd (!(decide (ma < 0) == decide (mb < 0))) P false (ea + eb) = R
  have HRR := Lib.hid hRR
  have HT := Lib.hid htab
  have HMV := Lib.hid hmv
  have HMD := Lib.hid hmd
  clear h1 h2 htab hPb hup hlw hPQ hmv hmd hRR
  go_enter Tryd.func29, Tryd.ntmps29
  go_wp2_with (go_at_call 17; (with_reducible refine (right_rt _ _ _ (by assumption)).mono ?_); rintro e w' ⟨rfl, hbr⟩; obtain ⟨osr, dr, rfl⟩ := hbr.more)
  refine wp_plan (S := Ext _) [(0, 0), (1, 0), (3, 0), (4, 0), (2, 1), (5, 1), (6, 1), (7, 0), (8, 0), (9, 0), (10, 0), (11, 0)] [] (by kernel_rfl) (by kernel_rfl) (by kernel_rfl) (fun _ _ d _ _ h => by cases d <;> exact h) (Ext.drew (Ext.refl _)) ?_
  (refine wpPl_read (v := ?_) rfl ?_ (fun w1 h1 => ?_) ?_; rotate_left 1; rfl; (obtain ⟨os1, d1, rfl⟩ := h1.more; go_simp; first | done | rfl))
  try simp only [Act.put, List.setIfInBounds_toArray, List.set_cons_zero, List.set_cons_succ]
  (refine wpPl_read (v := ?_) rfl ?_ (fun w1 h1 => ?_) ?_; rotate_left 1; rfl; (obtain ⟨os1, d1, rfl⟩ := h1.more; go_simp; first | done | rfl))
  try simp only [Act.put, List.setIfInBounds_toArray, List.set_cons_zero, List.set_cons_succ]
  (refine wpPl_read (v := ?_) rfl ?_ (fun w1 h1 => ?_) ?_; rotate_left 1; rfl; (obtain ⟨os1, d1, rfl⟩ := h1.more; go_simp; first | done | rfl))
  try simp only [Act.put, List.setIfInBounds_toArray, List.set_cons_zero, List.set_cons_succ]
  (refine wpPl_read (v := ?_) rfl ?_ (fun w1 h1 => ?_) ?_; rotate_left 1; rfl; (obtain ⟨os1, d1, rfl⟩ := h1.more; go_simp; first | done | rfl))
  try simp only [Act.put, List.setIfInBounds_toArray, List.set_cons_zero, List.set_cons_succ]
  (refine wpPl_eff rfl ?_ (fun K hK => ?_); rfl; go_simp; (go_at_call 49; (with_reducible refine (hsa _).mono ?_); rintro e w' ⟨rfl, rfl⟩); refine hK _ _ ?_ ?_; (repeat (first | with_reducible exact Ext.refl _ | with_reducible exact ext_d _ _ _ _ | with_reducible exact ext_app _ _ _ _ _ | with_reducible exact ext_app2 _ _ _ _ _ _ | with_reducible exact ext_app3 _ _ _ _ _ _ _ | with_reducible exact ext_app4 _ _ _ _ _ _ _ _ | with_reducible exact ext_app5 _ _ _ _ _ _ _ _ _ | ((with_reducible refine ext_suffix ⟨_, ?_⟩); (try simp only [Array.append_assoc]); rfl) | with_reducible apply Ext.drew | with_reducible apply Ext.alloc | with_reducible apply Ext.more_ | apply Ext.drew | apply Ext.alloc | apply Ext.more_)))
  try simp only [Act.put, List.setIfInBounds_toArray, List.set_cons_zero, List.set_cons_succ]
  (refine wpPl_eff rfl ?_ (fun K hK => ?_); rfl; go_simp; (go_at_call 49; (with_reducible refine (hsb _).mono ?_); rintro e w' ⟨rfl, rfl⟩); refine hK _ _ ?_ ?_; (repeat (first | with_reducible exact Ext.refl _ | with_reducible exact ext_d _ _ _ _ | with_reducible exact ext_app _ _ _ _ _ | with_reducible exact ext_app2 _ _ _ _ _ _ | with_reducible exact ext_app3 _ _ _ _ _ _ _ | with_reducible exact ext_app4 _ _ _ _ _ _ _ _ | with_reducible exact ext_app5 _ _ _ _ _ _ _ _ _ | ((with_reducible refine ext_suffix ⟨_, ?_⟩); (try simp only [Array.append_assoc]); rfl) | with_reducible apply Ext.drew | with_reducible apply Ext.alloc | with_reducible apply Ext.more_ | apply Ext.drew | apply Ext.alloc | apply Ext.more_)))
  try simp only [Act.put, List.setIfInBounds_toArray, List.set_cons_zero, List.set_cons_succ]
  (refine wpPl_eff rfl ?_ (fun K hK => ?_); rfl; go_simp; (go_at_call 58; (with_reducible refine (hmu _).mono ?_); rintro e w' ⟨rfl, rfl⟩); refine hK _ _ ?_ ?_; (repeat (first | with_reducible exact Ext.refl _ | with_reducible exact ext_d _ _ _ _ | with_reducible exact ext_app _ _ _ _ _ | with_reducible exact ext_app2 _ _ _ _ _ _ | with_reducible exact ext_app3 _ _ _ _ _ _ _ | with_reducible exact ext_app4 _ _ _ _ _ _ _ _ | with_reducible exact ext_app5 _ _ _ _ _ _ _ _ _ | ((with_reducible refine ext_suffix ⟨_, ?_⟩); (try simp only [Array.append_assoc]); rfl) | with_reducible apply Ext.drew | with_reducible apply Ext.alloc | with_reducible apply Ext.more_ | apply Ext.drew | apply Ext.alloc | apply Ext.more_)))
  try simp only [Act.put, List.setIfInBounds_toArray, List.set_cons_zero, List.set_cons_succ]
  (refine wpPl_read (v := ?_) rfl ?_ (fun w1 h1 => ?_) ?_; rotate_left 1; rfl; (obtain ⟨os1, d1, rfl⟩ := h1.more; go_simp; first | done | rfl))
  try simp only [Act.put, List.setIfInBounds_toArray, List.set_cons_zero, List.set_cons_succ]
  (refine wpPl_read (v := ?_) rfl ?_ (fun w1 h1 => ?_) ?_; rotate_left 1; rfl; (obtain ⟨os1, d1, rfl⟩ := h1.more; go_simp; first | done | rfl))
  try simp only [Act.put, List.setIfInBounds_toArray, List.set_cons_zero, List.set_cons_succ]
  (refine wpPl_read (v := ?_) rfl ?_ (fun w1 h1 => ?_) ?_; rotate_left 1; rfl; (obtain ⟨os1, d1, rfl⟩ := h1.more; go_simp; first | done | rfl))
  try simp only [Act.put, List.setIfInBounds_toArray, List.set_cons_zero, List.set_cons_succ]
  (refine wpPl_read (v := ?_) rfl ?_ (fun w1 h1 => ?_) ?_; rotate_left 1; rfl; (obtain ⟨os1, d1, rfl⟩ := h1.more; go_simp; first | done | rfl))
  try simp only [Act.put, List.setIfInBounds_toArray, List.set_cons_zero, List.set_cons_succ]
  (refine wpPl_read (v := ?_) rfl ?_ (fun w1 h1 => ?_) ?_; rotate_left 1; rfl; (obtain ⟨os1, d1, rfl⟩ := h1.more; go_simp; first | done | rfl))
  try simp only [Act.put, List.setIfInBounds_toArray, List.set_cons_zero, List.set_cons_succ]
  refine wpPl_nil ?_
  go_upto_region 4 with fail
  refine wp_world fun W hW => ?_
  have c0 : W.cell? ⟨w.heap.size, 0, none⟩ = some (.int .i64 ma) := by rw [hW]; go_simp
  have c1 : W.cell? ⟨w.heap.size, 1, none⟩ = some (.int .i64 ea) := by rw [hW]; go_simp
  have c2 : W.cell? ⟨w.heap.size + 1, 0, none⟩ = some (.int .i64 mb) := by rw [hW]; go_simp
  have c3 : W.cell? ⟨w.heap.size + 1, 1, none⟩ = some (.int .i64 eb) := by rw [hW]; go_simp
  have c4 : W.cell? ⟨w.heap.size + 1 + 1, 0, none⟩ = some (.int .i64 0) := by rw [hW]; go_simp
  have c5 : W.cell? ⟨w.heap.size + 1 + 1, 1, none⟩ = some (.int .i64 0) := by rw [hW]; go_simp
  have f4 : W.frozen? ⟨w.heap.size + 1 + 1, 0, none⟩ = false := by rw [hW]; go_simp
  have f5 : W.frozen? ⟨w.heap.size + 1 + 1, 1, none⟩ = false := by rw [hW]; go_simp
  have hz : w.heap.size + 1 + 1 < W.heap.size := by rw [hW]; simp; try omega
  have hz1 : w.heap.size + 1 < W.heap.size := by omega
  have hz0 : w.heap.size < W.heap.size := by omega
  have hxW : Ext w W := by rw [hW]; exact by repeat (first | with_reducible exact Ext.refl _ | with_reducible apply Ext.drew | with_reducible apply Ext.alloc | with_reducible apply Ext.more_)
  have HTW : Hid (Tab W) := HT.out.ext hxW
  clear hW
  go_upto_region 6 with (first | (go_at_call 62; (with_reducible refine (hdiv _).mono ?_); rintro e w' ⟨rfl, hx⟩; obtain ⟨os1, d1, rfl⟩ := hx.more) | (go_at_call 48; (with_reducible refine (hdg1 _ (HTW.out.ext (by repeat (first | with_reducible exact Ext.refl _ | with_reducible apply Ext.drew | with_reducible apply Ext.alloc | with_reducible apply Ext.more_)))).mono ?_); rintro e w' ⟨v1, rfl, ho1, hx1⟩; obtain ⟨os2, d2, rfl⟩ := hx1.more))
  refine wp_world fun W2 hW2 => ?_
  have hxW2 : Ext W W2 := by rw [hW2]; exact by repeat (first | with_reducible exact Ext.refl _ | with_reducible apply Ext.drew | with_reducible apply Ext.alloc | with_reducible apply Ext.more_)
  have HO1 : Hid (W2.ownsRow W.heap.size 5 1 v1 D1.length (b8 D1)) := by
    show World.ownsRow _ _ _ _ _ _ _
    rw [hW2, ← more_more]
    exact own_mono ho1 (by simp)
  clear hW2 ho1 hx1 hx hdg1 hdiv
  have hsz2 := hxW2.size
  obtain ⟨x2, t2, hD2⟩ : ∃ x t, D2 = x :: t := by cases D2 with | nil => simp at hml | cons x t => exact ⟨x, t, rfl⟩
  have HD2 := Lib.hid hD2
  clear hD2
  go_upto_region 7 with (first | (go_at_call 48; (with_reducible refine (hdg2 _ (HTW.out.ext hxW2)).mono ?_); rintro e w' ⟨v2, rfl, ho2, hx2⟩; obtain ⟨os3, d3, rfl⟩ := hx2.more; obtain ⟨A2, cap2, rfl, hdg, _⟩ := Dg.of_own (l := D2) (k := .u8) ho2; have hcap := hdg.1; rw [hml] at hcap ⊢; obtain ⟨b, off, rfl, _, _⟩ := Dg.cons (by rw [HD2.out] at hdg; exact hdg); clear ho2; have hc1 : ¬ cap2 = 1 := by omega) | (at_builtin; refine wpList_append_own _ rfl _ _ _ rfl W.heap.size 5 i0 (.int .u8 0) 1 1 Tryd.underlying50 hi hz0' hz1' hz2' rfl (by decide) _ D1.length (b8 D1) rfl (own_ext_ HO1.out hx2) _ 15 (cap2 - 1) (b8 (D2.drop 1)) rfl (by simp [b8, hml]) (Rd.add (Rd.mono (hdg.drop 1).rd (Nat.zero_le _))) (one_b8 _) (by simp [maxLen]; omega) (by omega) (by simp; omega) ?_; intro v3 w3 ho3 hg3 _; have hx3 := ext_grown (hxW2.trans hx2) (own_ext_ HO1.out hx2) hg3; obtain ⟨os4, d4, rfl⟩ := hx3.more; clear hg3 hdg hcap hc1 hx2))
  have hrd := round_own W (!(decide (ma < 0) == decide (mb < 0))) v3 (D1 ++ D2.drop 1) (ea + eb) (more W os4 d4) _ hx3 (by unfold b8; rw [List.map_append]; exact ho3) HMD.out (by simp; omega) (by omega)
  rw [HMV.out, HRR.out] at hrd
  have w1 : IntKind.i64.wrap (ea + eb) = ea + eb := i64w (by omega) (by omega)
  clear ho3 hx3
  go_wp2_with (go_at_call 47; (with_reducible refine hrd.mono ?_); rintro e w4 ⟨rfl, os5, d5, rfl⟩)
  exact bodyPost_ret (v := rnV R) (by simp [results, Tryd.results29, go_sem, c4, c5, hz]; done) rfl ⟨rfl, ((hxW.set _ (by show w.heap.size ≤ w.heap.size + 1 + 1; omega)).set _ (by show w.heap.size ≤ w.heap.size + 1 + 1; omega)).more_ _ _⟩
theorem mul_any (ma ea mb eb : Int) (w : World) (htab : Tab w) (hma : I64 ma) (hmb : I64 mb) :
    Calls Tryd.prog 29 #[NV ma ea, NV mb eb] w fun e w' => e = .returned (rnV (mulS ma ea mb eb)) ∧ Ext w w' := by
  unfold mulS
  split
  · rename_i h; exact mul_yes ma ea mb eb w htab h.1 h.2
  · rename_i h; exact mul_no ma ea mb eb w hma hmb h
end Go.Proofs.YtihfiegopnjeiaaDoor
