/- counterpaneref01.Mul, Div. -/
import Derived.Test.YtihfiegopnjeiaaDoorTimes
import Derived.Test.YtihfiegopnjeiaaDoorAdd
namespace Go.Proofs.YtihfiegopnjeiaaDoor
set_option linter.unusedSimpArgs false
set_option linter.unusedVariables false
open Go.RowKit NM

theorem sg_ng_ (ma mb : Int) : sg (ngB ma mb) (ma.natAbs * mb.natAbs) = ma * mb := by
  unfold ngB
  have h := sg_nat ma
  have h' := sg_nat mb
  cases ha : decide (ma < 0) <;> cases hb : decide (mb < 0) <;> rw [ha] at h <;> rw [hb] at h' <;> simp only [sg] at * <;> (conv => rhs; rw [← h, ← h']) <;> simp [Int.neg_mul, Int.mul_neg]
set_option maxRecDepth 100000 in
set_option maxHeartbeats 2000000 in
theorem rmul_any (ma ea mb eb : Int) (w : World) (hma : I64 ma) (hmb : I64 mb) :
    Calls Tryd.prog 30 #[NV ma ea, NV mb eb] w fun e w' => e = .returned (rnV (mulS ma ea mb eb)) ∧ Ext w w' := by
  by_cases h1 : Rt ma ea
  · have r1 := rtB_yes h1
    by_cases h2 : Rt mb eb
    · have r2 := rtB_yes h2
      have hs : mulS ma ea mb eb = rnd (!(decide (ma < 0) == decide (mb < 0))) (ma.natAbs * mb.natAbs) false (ea + eb) := by
        unfold mulS; rw [if_pos ⟨h1, h2⟩, ← sg_ng_, ← rnd_sg]; rfl
      rw [hs]
      obtain ⟨b1, b2, b3⟩ := Rt_bd h1
      obtain ⟨b4, b5, b6⟩ := Rt_bd h2
      have hT15 : T 15 = 1000000000000000 := by decide
      have n1 : nd ma.natAbs ≤ 15 := (nd_le_iff _ _).2 (by omega)
      have n2 : nd mb.natAbs ≤ 15 := (nd_le_iff _ _).2 (by omega)
      have hof1 := fun W => rof_any ma ea W hma
      have hof2 := fun W => rof_any mb eb W hmb
      have hpl := fun A B ca cb W h3 h4 => times_any (decide (ma < 0)) (decide (mb < 0)) A B ca cb (nd ma.natAbs) (nd mb.natAbs) (dig ma.natAbs) (dig mb.natAbs) ea eb W h3 h4 (dig_length _) (dig_length _) (by omega) (by omega) (dig_all _) (dig_all _) (by omega) (by omega)
      simp only [val_dig] at hpl
      have hL : nd ma.natAbs + nd mb.natAbs + 1 ≤ 1000 := by omega
      have hnr := fun (A : Option Addr) (cap : Nat) (l : List Nat) (W : World) (a1 : l.length = nd ma.natAbs + nd mb.natAbs + 1) (a2 : Rd 0 W A (i6 l)) (a3 : nd ma.natAbs + nd mb.natAbs + 1 ≤ cap) (a4 : AllD l) (a5 : val l = ma.natAbs * mb.natAbs) => near_any 0 (!(decide (ma < 0) == decide (mb < 0))) A (nd ma.natAbs + nd mb.natAbs + 1) cap l (ma.natAbs * mb.natAbs) (ea + eb) false W a1 a2 a3 hL a4 a5 (by omega) (Nat.zero_le _)
      generalize rnd (!(decide (ma < 0) == decide (mb < 0))) (ma.natAbs * mb.natAbs) false (ea + eb) = R at *
      generalize nd ma.natAbs + nd mb.natAbs + 1 = L at *
      generalize ma.natAbs * mb.natAbs = P at *
      clear h1 h2 n1 n2 hT15 hs
      generalize ma.natAbs = Na at *
      generalize mb.natAbs = Nb at *
      go_enter Tryd.func30, Tryd.ntmps30
      go_wp2_with (go_at_call 18; (with_reducible refine (rright_rt _ _ _ (by assumption)).mono ?_); rintro e w' ⟨rfl, hbr⟩; obtain ⟨osr, dr, rfl⟩ := hbr.more)
      refine wp_plan (S := Ext _) [(0, 0), (2, 0), (1, 1), (3, 1), (4, 1), (5, 1), (6, 0), (7, 0), (8, 2), (9, 2)] [8, 9] (by kernel_rfl) (by kernel_rfl) (by kernel_rfl) (fun _ _ d _ _ h => by cases d <;> exact h) (Ext.drew (Ext.refl _)) ?_
      (refine wpPl_read (v := ?_) rfl ?_ (fun w1 h1 => ?_) ?_; rotate_left 1; rfl; (obtain ⟨os1, d1, rfl⟩ := h1.more; go_simp; first | done | rfl))
      try simp only [Act.put, List.setIfInBounds_toArray, List.set_cons_zero, List.set_cons_succ]
      (refine wpPl_read (v := ?_) rfl ?_ (fun w1 h1 => ?_) ?_; rotate_left 1; rfl; (obtain ⟨os1, d1, rfl⟩ := h1.more; go_simp; first | done | rfl))
      try simp only [Act.put, List.setIfInBounds_toArray, List.set_cons_zero, List.set_cons_succ]
      (refine wpPl_eff rfl ?_ (fun K hK => ?_); rfl; go_simp; (go_at_call 45; (with_reducible refine (hof1 _).mono ?_); rintro e w' ⟨A1, c1, rfl, hrd1, hcp1, hx⟩; obtain ⟨os1, d1, rfl⟩ := hx.more; have hrd1 := hrd1.mono (Nat.zero_le _); (try simp only [more_more, more_drew, drew_more, Array.append_assoc] at hrd1)); refine hK _ _ ?_ ?_; (repeat (first | with_reducible exact Ext.refl _ | with_reducible exact ext_d _ _ _ _ | with_reducible exact ext_app _ _ _ _ _ | with_reducible exact ext_app2 _ _ _ _ _ _ | with_reducible exact ext_app3 _ _ _ _ _ _ _ | with_reducible exact ext_app4 _ _ _ _ _ _ _ _ | with_reducible exact ext_app5 _ _ _ _ _ _ _ _ _ | ((with_reducible refine ext_suffix ⟨_, ?_⟩); (try simp only [Array.append_assoc]); rfl) | with_reducible apply Ext.drew | with_reducible apply Ext.alloc | with_reducible apply Ext.more_ | apply Ext.drew | apply Ext.alloc | apply Ext.more_)))
      try simp only [Act.put, List.setIfInBounds_toArray, List.set_cons_zero, List.set_cons_succ]
      (refine wpPl_eff rfl ?_ (fun K hK => ?_); rfl; go_simp; (go_at_call 45; (with_reducible refine (hof2 _).mono ?_); rintro e w' ⟨A2, c2, rfl, hrd2, hcp2, hx⟩; obtain ⟨os2, d2, rfl⟩ := hx.more; have hrd2 := hrd2.mono (Nat.zero_le _); (try simp only [more_more, more_drew, drew_more, Array.append_assoc] at hrd2)); refine hK _ _ ?_ ?_; (repeat (first | with_reducible exact Ext.refl _ | with_reducible exact ext_d _ _ _ _ | with_reducible exact ext_app _ _ _ _ _ | with_reducible exact ext_app2 _ _ _ _ _ _ | with_reducible exact ext_app3 _ _ _ _ _ _ _ | with_reducible exact ext_app4 _ _ _ _ _ _ _ _ | with_reducible exact ext_app5 _ _ _ _ _ _ _ _ _ | ((with_reducible refine ext_suffix ⟨_, ?_⟩); (try simp only [Array.append_assoc]); rfl) | with_reducible apply Ext.drew | with_reducible apply Ext.alloc | with_reducible apply Ext.more_ | apply Ext.drew | apply Ext.alloc | apply Ext.more_)))
      try simp only [Act.put, List.setIfInBounds_toArray, List.set_cons_zero, List.set_cons_succ]
      (refine wpPl_eff rfl ?_ (fun K hK => ?_); rfl; go_simp; (go_at_call 46; (with_reducible refine (hpl _ _ _ _ _ (Rd.ext hrd1 (by (try simp only [more_more, more_drew, drew_more, Array.append_assoc]); repeat (first | with_reducible exact Ext.refl _ | with_reducible exact ext_d _ _ _ _ | with_reducible exact ext_app _ _ _ _ _ | with_reducible exact ext_app2 _ _ _ _ _ _ | with_reducible exact ext_app3 _ _ _ _ _ _ _ | ((with_reducible refine ext_suffix ⟨_, ?_⟩); (try simp only [Array.append_assoc]); rfl) | with_reducible apply Ext.drew | with_reducible apply Ext.alloc | with_reducible apply Ext.more_))) (Rd.ext hrd2 (by (try simp only [more_more, more_drew, drew_more, Array.append_assoc]); repeat (first | with_reducible exact Ext.refl _ | with_reducible exact ext_d _ _ _ _ | with_reducible exact ext_app _ _ _ _ _ | with_reducible exact ext_app2 _ _ _ _ _ _ | with_reducible exact ext_app3 _ _ _ _ _ _ _ | ((with_reducible refine ext_suffix ⟨_, ?_⟩); (try simp only [Array.append_assoc]); rfl) | with_reducible apply Ext.drew | with_reducible apply Ext.alloc | with_reducible apply Ext.more_)))).mono ?_); rintro e w' ⟨⟨A3, c3, X3, rfl, hrx3, hn3, ha3, hv3, hc3⟩, hx⟩; obtain ⟨os3, d3, rfl⟩ := hx.more; (try simp only [more_more, more_drew, drew_more, Array.append_assoc] at hrx3)); refine hK _ _ ?_ ?_; (repeat (first | with_reducible exact Ext.refl _ | with_reducible exact ext_d _ _ _ _ | with_reducible exact ext_app _ _ _ _ _ | with_reducible exact ext_app2 _ _ _ _ _ _ | with_reducible exact ext_app3 _ _ _ _ _ _ _ | with_reducible exact ext_app4 _ _ _ _ _ _ _ _ | with_reducible exact ext_app5 _ _ _ _ _ _ _ _ _ | ((with_reducible refine ext_suffix ⟨_, ?_⟩); (try simp only [Array.append_assoc]); rfl) | with_reducible apply Ext.drew | with_reducible apply Ext.alloc | with_reducible apply Ext.more_ | apply Ext.drew | apply Ext.alloc | apply Ext.more_)))
      try simp only [Act.put, List.setIfInBounds_toArray, List.set_cons_zero, List.set_cons_succ]
      (refine wpPl_eff rfl ?_ (fun K hK => ?_); rfl; go_simp; (go_at_call 50; (with_reducible refine (hnr _ _ _ _ hn3 (Rd.mono hrx3 (Nat.zero_le _)) hc3 ha3 hv3).mono ?_); rintro e w' ⟨rfl, hx⟩; obtain ⟨os4, d4, rfl⟩ := hx.more); refine hK _ _ ?_ ?_; (repeat (first | with_reducible exact Ext.refl _ | with_reducible exact ext_d _ _ _ _ | with_reducible exact ext_app _ _ _ _ _ | with_reducible exact ext_app2 _ _ _ _ _ _ | with_reducible exact ext_app3 _ _ _ _ _ _ _ | with_reducible exact ext_app4 _ _ _ _ _ _ _ _ | with_reducible exact ext_app5 _ _ _ _ _ _ _ _ _ | ((with_reducible refine ext_suffix ⟨_, ?_⟩); (try simp only [Array.append_assoc]); rfl) | with_reducible apply Ext.drew | with_reducible apply Ext.alloc | with_reducible apply Ext.more_ | apply Ext.drew | apply Ext.alloc | apply Ext.more_)))
      try simp only [Act.put, List.setIfInBounds_toArray, List.set_cons_zero, List.set_cons_succ]
      (refine wpPl_read (v := ?_) rfl ?_ (fun w1 h1 => ?_) ?_; rotate_left 1; rfl; (obtain ⟨os1, d1, rfl⟩ := h1.more; go_simp; first | done | rfl))
      try simp only [Act.put, List.setIfInBounds_toArray, List.set_cons_zero, List.set_cons_succ]
      (refine wpPl_read (v := ?_) rfl ?_ (fun w1 h1 => ?_) ?_; rotate_left 1; rfl; (obtain ⟨os1, d1, rfl⟩ := h1.more; go_simp; first | done | rfl))
      try simp only [Act.put, List.setIfInBounds_toArray, List.set_cons_zero, List.set_cons_succ]
      (refine wpPl_tail rfl ?_ (fun K hK => ?_); rfl; go_simp; refine hK _ _ ?_)
      try simp only [Act.put]
      (refine wpPl_tail rfl ?_ (fun K hK => ?_); rfl; go_simp; refine hK _ _ ?_)
      try simp only [Act.put, List.setIfInBounds_toArray, List.set_cons_zero, List.set_cons_succ]
      refine wpPl_nil ?_
      go_wp2
      exact bodyPost_ret (v := rnV R) (by simp [results, Tryd.results30, go_sem]; done) rfl ⟨rfl, by repeat (first | with_reducible exact Ext.refl _ | with_reducible apply Ext.drew | with_reducible apply Ext.alloc | with_reducible apply Ext.more_)⟩
    · have r2 := rtB_no h2
      have hs : mulS ma ea mb eb = none := by unfold mulS; rw [if_neg (fun h => h2 h.2)]
      rw [hs]
      clear h1 h2 hs
      go_enter Tryd.func30, Tryd.ntmps30
      go_wp2_with (go_at_call 18; (with_reducible refine (rright_rt _ _ _ (by assumption)).mono ?_); rintro e w' ⟨rfl, hbr⟩; obtain ⟨osr, dr, rfl⟩ := hbr.more)
      exact bodyPost_ret (v := .tuple #[NV 0 0, .bool false]) (by simp [results, Tryd.results30, go_sem]; done) rfl ⟨rfl, by repeat (first | with_reducible exact Ext.refl _ | with_reducible apply Ext.drew | with_reducible apply Ext.alloc | with_reducible apply Ext.more_)⟩
  · have r1 := rtB_no h1
    have hs : mulS ma ea mb eb = none := by unfold mulS; rw [if_neg (fun h => h1 h.1)]
    rw [hs]
    clear h1 hs
    go_enter Tryd.func30, Tryd.ntmps30
    go_wp2_with (go_at_call 18; (with_reducible refine (rright_rt _ _ _ (by assumption)).mono ?_); rintro e w' ⟨rfl, hbr⟩; obtain ⟨osr, dr, rfl⟩ := hbr.more)
    exact bodyPost_ret (v := .tuple #[NV 0 0, .bool false]) (by simp [results, Tryd.results30, go_sem]; done) rfl ⟨rfl, by repeat (first | with_reducible exact Ext.refl _ | with_reducible apply Ext.drew | with_reducible apply Ext.alloc | with_reducible apply Ext.more_)⟩
theorem ldiv_step {v x Q : Nat} (hQ : 0 < Q) (hx : x < 10) : (10 * v + x) / Q = 10 * (v / Q) + (10 * (v % Q) + x) / Q ∧ (10 * v + x) % Q = (10 * (v % Q) + x) % Q ∧ (10 * (v % Q) + x) / Q < 10 := by
  have h2 := Nat.div_add_mod v Q
  have h3 := Nat.mod_lt v hQ
  generalize v / Q = q at *
  generalize v % Q = r at *
  have h4 : 10 * v + x = Q * (10 * q) + (10 * r + x) := by rw [← h2, Nat.mul_add, Nat.mul_left_comm]; omega
  refine ⟨by rw [h4, Nat.mul_add_div hQ], by rw [h4, Nat.mul_add_mod], ?_⟩
  rw [Nat.div_lt_iff_lt_mul hQ]; omega
def sliceA : Value → Option Addr
  | .slice A _ _ => A
  | _ => none
def sliceC : Value → Nat
  | .slice _ _ c => c
  | _ => 0
/-- What the long division has after i digits. -/
structure LSt (W : World) (X : List Nat) (Q i r : Nat) (v : Value) (O : List Nat) (wr : World) : Prop where
  own : wr.ownsRow W.heap.size 3 1 v O.length (i6 O)
  all : AllD O
  len : O.length = i
  value : val O = val (X.take i) / Q
  rest : r = val (X.take i) % Q
  ext : Ext W wr
set_option maxRecDepth 100000 in
set_option maxHeartbeats 4000000 in
theorem rdiv_yes (ma ea mb eb : Int) (w : World) (h1 : Rt ma ea) (h2 : Rt mb eb) (h3 : mb ≠ 0) :
    Calls Tryd.prog 32 #[NV ma ea, NV mb eb] w fun e w' => e = .returned (rnV (divR (ngB ma mb) ma.natAbs mb.natAbs (ea - eb))) ∧ Ext w w' := by
  obtain ⟨b1, b2, b3⟩ := Rt_bd h1
  obtain ⟨b4, b5, b6⟩ := Rt_bd h2
  have r1 := rtB_yes h1
  have r2 := rtB_yes h2
  have hma : I64 ma := by unfold I64; omega
  have hmb : I64 mb := by unfold I64; omega
  have h3' : (mb == 0) = false := by simp [h3]
  have hQ : 0 < mb.natAbs := by omega
  have hT15 : T 15 = 1000000000000000 := by decide
  have n1 : nd ma.natAbs ≤ 15 := (nd_le_iff _ _).2 (by omega)
  have hdi := fun W => rdigits ma W hma
  have hwi := fun A c W h => wide_any A (nd ma.natAbs) c 40 (dig ma.natAbs) W (dig_length _) h (by omega)
  simp only [show ((40 : Nat) : Int) = 40 from rfl] at hwi
  have hXl : (dig ma.natAbs ++ List.replicate 40 0).length = nd ma.natAbs + 40 := by simp [dig_length]
  have hXv : val (dig ma.natAbs ++ List.replicate 40 0) = ma.natAbs * T 40 := by rw [val_zeros, val_dig]
  have hXa : AllD (dig ma.natAbs ++ List.replicate 40 0) := (dig_all _).append (AllD.rep _ _ (by omega))
  generalize dig ma.natAbs ++ List.replicate 40 0 = X at *
  unfold divR ngB
  have hpq : ∀ Q : Nat, mb.natAbs = Q → (mb < 0 → -mb = (Q : Int)) ∧ (0 ≤ mb → mb = (Q : Int)) := by intro Q hq; omega
  generalize ma.natAbs * T 40 = PT at *
  generalize hLn : nd ma.natAbs + 40 = Ln at *
  have hLn2 : Ln ≤ 100 := by omega
  obtain ⟨hp1, hp2⟩ := hpq _ rfl
  generalize mb.natAbs = Q at *
  clear hpq h1 h2 h3 hT15 hLn
  generalize hRR : rnd (!(decide (ma < 0) == decide (mb < 0))) (PT / Q) (decide (PT % Q ≠ 0)) (ea - eb - 40) = R
  have HRR := Lib.hid hRR
  have HXL := Lib.hid hXl
  have HXV := Lib.hid hXv
  have HXA := Lib.hid hXa
  have HP1 := Lib.hid hp1
  have HP2 := Lib.hid hp2
  clear hRR hXl hXv hXa hp1 hp2
  have hQ0 : ((Q : Int) == 0) = false := by simp; omega
  have hQ1 : (Q == 0) = false := by simp; omega
  have hQne : ¬ Q = 0 := by omega
  obtain ⟨i0, hi, hz0', hz1', hz2'⟩ := info_parts info_int_
  go_enter Tryd.func32, Tryd.ntmps32
  go_upto_region 3 with (go_at_call 18; (with_reducible refine (rright_rt _ _ _ (by assumption)).mono ?_); rintro e w' ⟨rfl, hbr⟩; obtain ⟨osr, dr, rfl⟩ := hbr.more)
  refine wp_world fun W hW => ?_
  have c0 : W.cell? ⟨w.heap.size, 0, none⟩ = some (.int .i64 ma) := by rw [hW]; go_simp
  have c1 : W.cell? ⟨w.heap.size, 1, none⟩ = some (.int .i64 ea) := by rw [hW]; go_simp
  have c2 : W.cell? ⟨w.heap.size + 1, 0, none⟩ = some (.int .i64 mb) := by rw [hW]; go_simp
  have c3 : W.cell? ⟨w.heap.size + 1, 1, none⟩ = some (.int .i64 eb) := by rw [hW]; go_simp
  have c4 : W.cell? ⟨w.heap.size + 1 + 1, 0, none⟩ = some (.int .i64 0) := by rw [hW]; go_simp
  have c5 : W.cell? ⟨w.heap.size + 1 + 1, 1, none⟩ = some (.int .i64 0) := by rw [hW]; go_simp
  have f4 : W.frozen? ⟨w.heap.size + 1 + 1, 0, none⟩ = false := by rw [hW]; go_simp
  have f5 : W.frozen? ⟨w.heap.size + 1 + 1, 1, none⟩ = false := by rw [hW]; go_simp
  have hz : w.heap.size + 1 + 1 < W.heap.size := by rw [hW]; simp; try omega
  have hz1 : w.heap.size + 1 < W.heap.size := by omega
  have hz0 : w.heap.size < W.heap.size := by omega
  have hxW : Ext w W := by rw [hW]; exact by repeat (first | with_reducible exact Ext.refl _ | with_reducible apply Ext.drew | with_reducible apply Ext.alloc | with_reducible apply Ext.more_)
  clear hW
  go_upto_if 28 with fail
  go_cut [6] (fun s6 wx => s6 = .int .i64 (Q : Int) ∧ wx = W)
  case first =>
    by_cases hng : mb < 0
    · have HE := Lib.hid (HP1.out hng)
      have w1 : wrap64 (-mb) = -mb := by have := HP1.out hng; exact IntWalk.wrap64_in _ (by omega)
      go_wp2
      go_meet
      exact ⟨by first | rw [w1, HE.out] | rw [HE.out], rfl⟩
    · have HE := Lib.hid (HP2.out (by omega))
      go_wp2
      go_meet
      exact ⟨by rw [← HE.out], rfl⟩
  case rest =>
  obtain ⟨rfl, rfl⟩ := hcut
  go_upto_region 9 with (first | (go_at_call 51; (with_reducible refine (hdi _).mono ?_); rintro e w' ⟨A1, k1, rfl, hr1, hk1, hx1⟩; obtain ⟨os1, d1, rfl⟩ := hx1.more) | (go_at_call 63; (with_reducible refine (hwi _ _ _ (Rd.mono hr1 (Nat.zero_le _))).mono ?_); rintro e w' ⟨v2, rfl, ho2, hx2⟩; obtain ⟨os2, d2, rfl⟩ := hx2.more))
  refine wp_world fun W2 hW2 => ?_
  have hx12 : Ext wc W2 := by rw [hW2]; exact by repeat (first | with_reducible exact Ext.refl _ | with_reducible apply Ext.drew | with_reducible apply Ext.alloc | with_reducible apply Ext.more_)
  have hrx : Rd 0 W2 (sliceA v2) (i6 X) ∧ v2 = .slice (sliceA v2) Ln (sliceC v2) := by
    obtain ⟨A, c, rfl, hd, _⟩ := Dg.of_own (l := X) (k := .i64) ho2
    refine ⟨by rw [hW2, ← more_more]; exact hd.rd.mono (Nat.zero_le _), by rw [HXL.out]; rfl⟩
  clear hW2 ho2 hx1 hx2 hr1 hdi hwi
  obtain ⟨hrx, hv2⟩ := hrx
  generalize sliceA v2 = AX at *
  generalize sliceC v2 = CX at *
  subst hv2
  have HRX := Lib.hid hrx
  clear hrx
  have HL0 : Hid (LSt W2 X Q 0 0 (.slice none 0 0) [] W2) := ⟨World.ownsRow_nil _ _ _ _, AllD.nil, rfl, by simp [val_nil], by simp [val_nil], Ext.refl _⟩
  have c0 := hx12.cell_some c0
  have c1 := hx12.cell_some c1
  have c2 := hx12.cell_some c2
  have c3 := hx12.cell_some c3
  have c4 := hx12.cell_some c4
  have c5 := hx12.cell_some c5
  have f4 := (hx12.frozen (p := ⟨w.heap.size + 1 + 1, 0, none⟩) hz).trans f4
  have f5 := (hx12.frozen (p := ⟨w.heap.size + 1 + 1, 1, none⟩) hz).trans f5
  have hs12 := hx12.size
  have hz : w.heap.size + 1 + 1 < W2.heap.size := by omega
  have hz1 : w.heap.size + 1 < W2.heap.size := by omega
  have hz0 : w.heap.size < W2.heap.size := by omega
  have hxW := hxW.trans hx12
  go_wp2
  go_loopw [8, 9, 10] (fun a v i wr => ∃ (j r : Nat) (O : List Nat), j ≤ Ln ∧ r < Q ∧ i = .int .i64 (j : Int) ∧ a = .int .i64 (r : Int) ∧ Hid (LSt W2 X Q j r v O wr)) (fun _ _ i _ => Ln - (intOf i).toNat)
  case atStart => exact ⟨0, 0, [], Nat.zero_le _, hQ, rfl, rfl, HL0⟩
  case round =>
    obtain ⟨j, r, O, hj, hr, rfl, rfl, H⟩ := hrel
    have hxr := H.out.ext
    have hsz := hxr.size
    have hOl := H.out.len
    by_cases hlt : j < Ln
    · obtain ⟨x, hxj⟩ : ∃ x, X[j]? = some x := ⟨X[j]'(by have := HXL.out; omega), by rw [List.getElem?_eq_getElem]⟩
      have hx10 := HXA.out.at hxj
      obtain ⟨bx, ox, rfl, _, hcx⟩ := Rd.at_ (HRX.out.ext hxr) hxj
      have hst := ldiv_step (v := val (X.take j)) (x := x) hQ hx10
      rw [← H.out.rest, ← H.out.value, ← val_snoc, ← take_at hxj] at hst
      have HST := Lib.hid hst
      clear hst hxj
      have t1 : (10 : Int) * (r : Int) + (x : Int) = ((10 * r + x : Nat) : Int) := by omega
      have hnb : 10 * r + x < 100000000000000000 := by omega
      have hd10 : (10 * r + x) / Q < 10 := HST.out.2.2
      have hr2 : (10 * r + x) % Q < Q := Nat.mod_lt _ hQ
      generalize 10 * r + x = nn at *
      have t2 : (nn : Int).tdiv (Q : Int) = ((nn / Q : Nat) : Int) := rfl
      have t3 : (nn : Int).tmod (Q : Int) = ((nn % Q : Nat) : Int) := rfl
      have t2' : (nn : Int) / (Q : Int) = ((nn / Q : Nat) : Int) := rfl
      have t3' : (nn : Int) % (Q : Int) = ((nn % Q : Nat) : Int) := rfl
      generalize nn / Q = dd at *
      generalize nn % Q = rr at *
      have w1 : IntKind.i64.wrap (nn : Int) = nn := i64w (by omega) (by omega)
      have w2 : IntKind.i64.wrap (dd : Int) = dd := i64w (by omega) (by omega)
      have w3 : IntKind.i64.wrap (rr : Int) = rr := i64w (by omega) (by omega)
      go_wp2_with (at_builtin; refine wpList_append_own _ rfl _ _ _ rfl W2.heap.size 3 i0 (.int .i64 0) 1 8 Tryd.underlying43 hi hz0' hz1' hz2' rfl (by decide) _ O.length (i6 O) rfl (own_allocT H.out.own _) _ 1 1 [.int .i64 (dd : Int)] rfl rfl (Rd.one_ _ _ (by simp)).add (one_i6 [dd]) (by simp [maxLen]; omega) (by omega) (by simp; omega) ?_; intro v3 w3' ho3 hg3 _)
      have hx3 := ext_grown (hxr.alloc _) (own_allocT H.out.own _) hg3
      refine ⟨⟨j + 1, rr, O ++ [dd], by omega, hr2, by go_num, rfl, ⟨?_, H.out.all.append (AllD.cons hd10 AllD.nil), by simp; omega, ?_, ?_, hx3⟩⟩, by simp [intOf]; omega⟩
      · unfold i6; rw [List.map_append]; simpa using ho3
      · rw [val_snoc]; exact HST.out.1.symm
      · exact HST.out.2.1.symm
    · obtain rfl : j = Ln := by omega
      obtain ⟨os, d, rfl⟩ := hxr.more
      obtain ⟨Ao, co, rfl, hdo, _⟩ := Dg.of_own (l := O) (k := .i64) H.out.own
      have hNv : val O = PT / Q := by
        have := H.out.value
        rw [List.take_of_length_le (by have := HXL.out; omega), HXV.out] at this
        exact this
      have hNr : r = PT % Q := by
        have := H.out.rest
        rw [List.take_of_length_le (by have := HXL.out; omega), HXV.out] at this
        exact this
      have hnr := near_any 0 (!(decide (ma < 0) == decide (mb < 0))) Ao O.length co O (PT / Q) (ea - eb - 40) (decide (PT % Q ≠ 0)) (more W2 os d) rfl (hdo.rd.mono (Nat.zero_le _)) hdo.1 (by omega) H.out.all hNv (by omega) (Nat.zero_le _)
      rw [HRR.out, ← hNr, hOl] at hnr
      have hb1 : (!((r : Int) == 0)) = decide (r ≠ 0) := by by_cases h0 : r = 0 <;> simp [h0]
      have hb2 : ((r : Int) != 0) = decide (r ≠ 0) := by by_cases h0 : r = 0 <;> simp [h0]
      have hb3 : (!(r == 0)) = decide (r ≠ 0) := by by_cases h0 : r = 0 <;> simp [h0]
      generalize decide (r ≠ 0) = mm at *
      have w1 : IntKind.i64.wrap (ea - eb) = ea - eb := i64w (by omega) (by omega)
      have w2 : IntKind.i64.wrap (ea - eb - 40) = ea - eb - 40 := i64w (by omega) (by omega)
      clear hNv hNr hdo H
      go_wp2_with (go_at_call 50; (with_reducible refine hnr.mono ?_); rintro e w' ⟨rfl, hx⟩; obtain ⟨os9, d9, rfl⟩ := hx.more)
      exact bodyPost_ret (v := rnV R) (by simp [results, Tryd.results32, go_sem, c4, c5, hz]; done) rfl ⟨rfl, ((hxW.set _ (by show w.heap.size ≤ w.heap.size + 1 + 1; omega)).set _ (by show w.heap.size ≤ w.heap.size + 1 + 1; omega)).more_ _ _⟩
set_option maxRecDepth 100000 in
set_option maxHeartbeats 2000000 in
theorem rdiv_any (ma ea mb eb : Int) (w : World) (hma : I64 ma) (hmb : I64 mb) :
    Calls Tryd.prog 32 #[NV ma ea, NV mb eb] w fun e w' => e = .returned (rnV (divS ma ea mb eb)) ∧ Ext w w' := by
  unfold divS
  by_cases h1 : Rt ma ea
  · have r1 := rtB_yes h1
    by_cases h2 : Rt mb eb
    · have r2 := rtB_yes h2
      by_cases h3 : mb = 0
      · rw [if_neg (fun h => h.2.2 h3)]
        have h4 : (mb == 0) = true := by simp [h3]
        clear h1 h2 h3
        go_enter Tryd.func32, Tryd.ntmps32
        go_wp2_with (go_at_call 18; (with_reducible refine (rright_rt _ _ _ (by assumption)).mono ?_); rintro e w' ⟨rfl, hbr⟩; obtain ⟨osr, dr, rfl⟩ := hbr.more)
        exact bodyPost_ret (v := .tuple #[NV 0 0, .bool false]) (by simp [results, Tryd.results32, go_sem]; done) rfl ⟨rfl, by repeat (first | with_reducible exact Ext.refl _ | with_reducible apply Ext.drew | with_reducible apply Ext.alloc | with_reducible apply Ext.more_)⟩
      · rw [if_pos ⟨h1, h2, h3⟩]
        exact rdiv_yes ma ea mb eb w h1 h2 h3
    · have r2 := rtB_no h2
      rw [if_neg (fun h => h2 h.2.1)]
      clear h1 h2
      go_enter Tryd.func32, Tryd.ntmps32
      go_wp2_with (go_at_call 18; (with_reducible refine (rright_rt _ _ _ (by assumption)).mono ?_); rintro e w' ⟨rfl, hbr⟩; obtain ⟨osr, dr, rfl⟩ := hbr.more)
      exact bodyPost_ret (v := .tuple #[NV 0 0, .bool false]) (by simp [results, Tryd.results32, go_sem]; done) rfl ⟨rfl, by repeat (first | with_reducible exact Ext.refl _ | with_reducible apply Ext.drew | with_reducible apply Ext.alloc | with_reducible apply Ext.more_)⟩
  · have r1 := rtB_no h1
    rw [if_neg (fun h => h1 h.1)]
    clear h1
    go_enter Tryd.func32, Tryd.ntmps32
    go_wp2_with (go_at_call 18; (with_reducible refine (rright_rt _ _ _ (by assumption)).mono ?_); rintro e w' ⟨rfl, hbr⟩; obtain ⟨osr, dr, rfl⟩ := hbr.more)
    exact bodyPost_ret (v := .tuple #[NV 0 0, .bool false]) (by simp [results, Tryd.results32, go_sem]; done) rfl ⟨rfl, by repeat (first | with_reducible exact Ext.refl _ | with_reducible apply Ext.drew | with_reducible apply Ext.alloc | with_reducible apply Ext.more_)⟩
end Go.Proofs.YtihfiegopnjeiaaDoor
