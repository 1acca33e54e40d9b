/- num.Div. -/
import Derived.Test.YtihfiegopnjeiaaDoorMake
namespace Go.Proofs.YtihfiegopnjeiaaDoor
set_option linter.unusedSimpArgs false
set_option linter.unusedVariables false
open Go.RowKit NM

/-- What Div's loop has after j rounds. -/
structure DivSt (X : World) (P Q j : Nat) (v : Value) (r : Nat) (wr : World) (l : List Nat) : Prop where
  own : wr.ownsRow X.heap.size 5 1 v l.length (b8 l)
  all : AllD l
  len : l.length ≤ 20 + j
  value : val l = P * T j / Q
  rest : r = P * T j % Q
  ext : Ext X wr
theorem div_step {P Q j : Nat} (hQ : 0 < Q) : P * T (j + 1) / Q = 10 * (P * T j / Q) + 10 * (P * T j % Q) / Q ∧ P * T (j + 1) % Q = 10 * (P * T j % Q) % Q ∧ 10 * (P * T j % Q) / Q < 10 := by
  have h1 : P * T (j + 1) = 10 * (P * T j) := by rw [T_succ, Nat.mul_left_comm]
  have h2 := Nat.div_add_mod (P * T j) Q
  have h3 := Nat.mod_lt (P * T j) hQ
  generalize P * T j / Q = q at *
  generalize P * T j % Q = r at *
  have h4 : P * T (j + 1) = Q * (10 * q) + 10 * r := by rw [h1, ← h2, Nat.mul_add, Nat.mul_left_comm]
  refine ⟨by rw [h4, Nat.mul_add_div hQ], by rw [h4, Nat.mul_add_mod], ?_⟩
  rw [Nat.div_lt_iff_lt_mul hQ]; omega

set_option maxRecDepth 100000 in
set_option maxHeartbeats 2000000 in
theorem div_yes (ma ea mb eb : Int) (w : World) (htab : Tab w) (h1 : Rt ma ea) (h2 : Rt mb eb) (h3 : mb ≠ 0) :
    Calls Tryd.prog 31 #[NV ma ea, NV mb eb] w fun e w' => e = .returned (rnV (divR (ngB ma mb) ma.natAbs mb.natAbs (ea - eb))) ∧ Ext w w' := by
  obtain ⟨b1, b2, b3⟩ := Rt_bd h1
  obtain ⟨b4, b5, b6⟩ := Rt_bd h2
  have r1 := rtB_yes h1
  have r2 := rtB_yes h2
  have hma : I64 ma := by unfold I64; omega
  have hmb : I64 mb := by unfold I64; omega
  have h3' : (mb == 0) = false := by simp [h3]
  have hQ : 0 < mb.natAbs := by omega
  have HT := Lib.hid htab
  have HR := Lib.hid h3
  clear h1 h2 h3 htab
  go_enter Tryd.func31, Tryd.ntmps31
  go_wp2_with (go_at_call 17; (with_reducible refine (right_rt _ _ _ (by assumption)).mono ?_); rintro e w' ⟨rfl, hbr⟩; obtain ⟨osr, dr, rfl⟩ := hbr.more)
  refine wp_plan (S := Ext _) [(0, 0), (1, 0), (3, 0), (4, 0), (2, 1), (5, 1), (6, 0), (7, 0)] [] (by kernel_rfl) (by kernel_rfl) (by kernel_rfl) (fun _ _ d _ _ h => by cases d <;> exact h) (Ext.drew (Ext.refl _)) ?_
  (refine wpPl_read (v := ?_) rfl ?_ (fun w1 h1 => ?_) ?_; rotate_left 1; rfl; (obtain ⟨os1, d1, rfl⟩ := h1.more; go_simp; first | done | rfl))
  try simp only [Act.put, List.setIfInBounds_toArray, List.set_cons_zero, List.set_cons_succ]
  (refine wpPl_read (v := ?_) rfl ?_ (fun w1 h1 => ?_) ?_; rotate_left 1; rfl; (obtain ⟨os1, d1, rfl⟩ := h1.more; go_simp; first | done | rfl))
  try simp only [Act.put, List.setIfInBounds_toArray, List.set_cons_zero, List.set_cons_succ]
  (refine wpPl_read (v := ?_) rfl ?_ (fun w1 h1 => ?_) ?_; rotate_left 1; rfl; (obtain ⟨os1, d1, rfl⟩ := h1.more; go_simp; first | done | rfl))
  try simp only [Act.put, List.setIfInBounds_toArray, List.set_cons_zero, List.set_cons_succ]
  (refine wpPl_read (v := ?_) rfl ?_ (fun w1 h1 => ?_) ?_; rotate_left 1; rfl; (obtain ⟨os1, d1, rfl⟩ := h1.more; go_simp; first | done | rfl))
  try simp only [Act.put, List.setIfInBounds_toArray, List.set_cons_zero, List.set_cons_succ]
  (refine wpPl_eff rfl ?_ (fun K hK => ?_); rfl; go_simp; (go_at_call 49; (with_reducible refine (size_nat _ _ (by assumption)).mono ?_); rintro e w' ⟨rfl, rfl⟩); refine hK _ _ ?_ ?_; (repeat (first | with_reducible exact Ext.refl _ | with_reducible exact ext_d _ _ _ _ | with_reducible exact ext_app _ _ _ _ _ | with_reducible exact ext_app2 _ _ _ _ _ _ | with_reducible exact ext_app3 _ _ _ _ _ _ _ | with_reducible exact ext_app4 _ _ _ _ _ _ _ _ | with_reducible exact ext_app5 _ _ _ _ _ _ _ _ _ | ((with_reducible refine ext_suffix ⟨_, ?_⟩); (try simp only [Array.append_assoc]); rfl) | with_reducible apply Ext.drew | with_reducible apply Ext.alloc | with_reducible apply Ext.more_ | apply Ext.drew | apply Ext.alloc | apply Ext.more_)))
  try simp only [Act.put, List.setIfInBounds_toArray, List.set_cons_zero, List.set_cons_succ]
  (refine wpPl_eff rfl ?_ (fun K hK => ?_); rfl; go_simp; (go_at_call 49; (with_reducible refine (size_nat _ _ (by assumption)).mono ?_); rintro e w' ⟨rfl, rfl⟩); refine hK _ _ ?_ ?_; (repeat (first | with_reducible exact Ext.refl _ | with_reducible exact ext_d _ _ _ _ | with_reducible exact ext_app _ _ _ _ _ | with_reducible exact ext_app2 _ _ _ _ _ _ | with_reducible exact ext_app3 _ _ _ _ _ _ _ | with_reducible exact ext_app4 _ _ _ _ _ _ _ _ | with_reducible exact ext_app5 _ _ _ _ _ _ _ _ _ | ((with_reducible refine ext_suffix ⟨_, ?_⟩); (try simp only [Array.append_assoc]); rfl) | with_reducible apply Ext.drew | with_reducible apply Ext.alloc | with_reducible apply Ext.more_ | apply Ext.drew | apply Ext.alloc | apply Ext.more_)))
  try simp only [Act.put, List.setIfInBounds_toArray, List.set_cons_zero, List.set_cons_succ]
  (refine wpPl_read (v := ?_) rfl ?_ (fun w1 h1 => ?_) ?_; rotate_left 1; rfl; (obtain ⟨os1, d1, rfl⟩ := h1.more; go_simp; first | done | rfl))
  try simp only [Act.put, List.setIfInBounds_toArray, List.set_cons_zero, List.set_cons_succ]
  (refine wpPl_read (v := ?_) rfl ?_ (fun w1 h1 => ?_) ?_; rotate_left 1; rfl; (obtain ⟨os1, d1, rfl⟩ := h1.more; go_simp; first | done | rfl))
  try simp only [Act.put, List.setIfInBounds_toArray, List.set_cons_zero, List.set_cons_succ]
  refine wpPl_nil ?_
  go_wp2_with fail
  refine wp_world fun W hW => ?_
  have c0 : W.cell? ⟨w.heap.size, 0, none⟩ = some (.int .i64 ma) := by rw [hW]; go_simp
  have c1 : W.cell? ⟨w.heap.size, 1, none⟩ = some (.int .i64 ea) := by rw [hW]; go_simp
  have c2 : W.cell? ⟨w.heap.size + 1, 0, none⟩ = some (.int .i64 mb) := by rw [hW]; go_simp
  have c3 : W.cell? ⟨w.heap.size + 1, 1, none⟩ = some (.int .i64 eb) := by rw [hW]; go_simp
  have c4 : W.cell? ⟨w.heap.size + 1 + 1, 0, none⟩ = some (.int .i64 0) := by rw [hW]; go_simp
  have c5 : W.cell? ⟨w.heap.size + 1 + 1, 1, none⟩ = some (.int .i64 0) := by rw [hW]; go_simp
  have f4 : W.frozen? ⟨w.heap.size + 1 + 1, 0, none⟩ = false := by rw [hW]; go_simp
  have f5 : W.frozen? ⟨w.heap.size + 1 + 1, 1, none⟩ = false := by rw [hW]; go_simp
  have hz : w.heap.size + 1 + 1 < W.heap.size := by rw [hW]; simp; try omega
  have hz1 : w.heap.size + 1 < W.heap.size := by omega
  have hz0 : w.heap.size < W.heap.size := by omega
  have hxW : Ext w W := by rw [hW]; exact by repeat (first | exact Ext.refl _ | apply Ext.drew | apply Ext.alloc | apply Ext.more_)
  clear hW
  generalize hP : ma.natAbs = P at *
  generalize hQQ : mb.natAbs = Q at *
  have hQ0 : ((Q : Int) == 0) = false := by simp; omega
  have hQ1 : (Q == 0) = false := by simp; omega
  have hq : (P : Int) / (Q : Int) = ((P / Q : Nat) : Int) := by omega
  have hqm : (P : Int) % (Q : Int) = ((P % Q : Nat) : Int) := by omega
  have hQne : ¬ Q = 0 := by omega
  have hdg := fun W hW => digitsOf_any (P / Q) (Nat.lt_of_le_of_lt (Nat.div_le_self _ _) (by omega)) W hW
  generalize hq0 : P / Q = q0 at *
  generalize hr0 : P % Q = r0 at *
  have hq0b : q0 < 1000000000000000 := by rw [← hq0]; exact Nat.lt_of_le_of_lt (Nat.div_le_self _ _) (by omega)
  have hr0b : r0 < Q := by rw [← hr0]; exact Nat.mod_lt _ hQ
  have hqw : IntKind.u64.wrap (q0 : Int) = q0 := by rw [IntKind.wrap_u64]; omega
  have hrw : IntKind.u64.wrap (r0 : Int) = r0 := by rw [IntKind.wrap_u64]; omega
  have HQ0 := Lib.hid hq0
  have HR0 := Lib.hid hr0
  have HPQ := Lib.hid hP
  have HQQ := Lib.hid hQQ
  clear hq0 hr0 hP hQQ
  have hwr : IntKind.i64.wrap (ea - eb) = ea - eb := i64w (by omega) (by omega)
  have HTW : Hid (Tab W) := HT.out.ext hxW
  have hdgW := hdg W.drew (HTW.out.ext ((Ext.refl _).drew))
  clear hdg
  refine wp_plan (S := Ext _) [(0, 0), (1, 0), (2, 0), (4, 0), (5, 0), (6, 0), (7, 0), (8, 0), (3, 1), (9, 0), (10, 0)] [] (by kernel_rfl) (by kernel_rfl) (by kernel_rfl) (fun _ _ d _ _ h => by cases d <;> exact h) (Ext.drew (Ext.refl _)) ?_
  (refine wpPl_read (v := ?_) rfl ?_ (fun w1 h1 => ?_) ?_; rotate_left 1; rfl; (obtain ⟨os1, d1, rfl⟩ := h1.more; go_simp; first | done | rfl))
  try simp only [Act.put, List.setIfInBounds_toArray, List.set_cons_zero, List.set_cons_succ]
  (refine wpPl_read (v := ?_) rfl ?_ (fun w1 h1 => ?_) ?_; rotate_left 1; rfl; (obtain ⟨os1, d1, rfl⟩ := h1.more; go_simp; first | done | rfl))
  try simp only [Act.put, List.setIfInBounds_toArray, List.set_cons_zero, List.set_cons_succ]
  (refine wpPl_read (v := ?_) rfl ?_ (fun w1 h1 => ?_) ?_; rotate_left 1; rfl; (obtain ⟨os1, d1, rfl⟩ := h1.more; go_simp; first | done | rfl))
  try simp only [Act.put, List.setIfInBounds_toArray, List.set_cons_zero, List.set_cons_succ]
  (refine wpPl_read (v := ?_) rfl ?_ (fun w1 h1 => ?_) ?_; rotate_left 1; rfl; (obtain ⟨os1, d1, rfl⟩ := h1.more; go_simp; first | done | rfl))
  try simp only [Act.put, List.setIfInBounds_toArray, List.set_cons_zero, List.set_cons_succ]
  (refine wpPl_read (v := ?_) rfl ?_ (fun w1 h1 => ?_) ?_; rotate_left 1; rfl; (obtain ⟨os1, d1, rfl⟩ := h1.more; go_simp; first | done | rfl))
  try simp only [Act.put, List.setIfInBounds_toArray, List.set_cons_zero, List.set_cons_succ]
  (refine wpPl_read (v := ?_) rfl ?_ (fun w1 h1 => ?_) ?_; rotate_left 1; rfl; (obtain ⟨os1, d1, rfl⟩ := h1.more; go_simp; first | done | rfl))
  try simp only [Act.put, List.setIfInBounds_toArray, List.set_cons_zero, List.set_cons_succ]
  (refine wpPl_read (v := ?_) rfl ?_ (fun w1 h1 => ?_) ?_; rotate_left 1; rfl; (obtain ⟨os1, d1, rfl⟩ := h1.more; go_simp; first | done | rfl))
  try simp only [Act.put, List.setIfInBounds_toArray, List.set_cons_zero, List.set_cons_succ]
  (refine wpPl_read (v := ?_) rfl ?_ (fun w1 h1 => ?_) ?_; rotate_left 1; rfl; (obtain ⟨os1, d1, rfl⟩ := h1.more; go_simp; first | done | rfl))
  try simp only [Act.put, List.setIfInBounds_toArray, List.set_cons_zero, List.set_cons_succ]
  (refine wpPl_eff rfl ?_ (fun K hK => ?_); rfl; go_simp; (go_at_call 48; (with_reducible refine hdgW.mono ?_); rintro e w' ⟨v, rfl, ho, hx⟩; obtain ⟨os4, d4, rfl⟩ := hx.more); refine hK _ _ ?_ ?_; (repeat (first | with_reducible exact Ext.refl _ | with_reducible exact ext_d _ _ _ _ | with_reducible exact ext_app _ _ _ _ _ | with_reducible exact ext_app2 _ _ _ _ _ _ | with_reducible exact ext_app3 _ _ _ _ _ _ _ | with_reducible exact ext_app4 _ _ _ _ _ _ _ _ | with_reducible exact ext_app5 _ _ _ _ _ _ _ _ _ | ((with_reducible refine ext_suffix ⟨_, ?_⟩); (try simp only [Array.append_assoc]); rfl) | with_reducible apply Ext.drew | with_reducible apply Ext.alloc | with_reducible apply Ext.more_ | apply Ext.drew | apply Ext.alloc | apply Ext.more_)))
  try simp only [Act.put, List.setIfInBounds_toArray, List.set_cons_zero, List.set_cons_succ]
  (refine wpPl_read (v := ?_) rfl ?_ (fun w1 h1 => ?_) ?_; rotate_left 1; rfl; (obtain ⟨os1, d1, rfl⟩ := h1.more; go_simp; first | done | rfl))
  try simp only [Act.put, List.setIfInBounds_toArray, List.set_cons_zero, List.set_cons_succ]
  (refine wpPl_read (v := ?_) rfl ?_ (fun w1 h1 => ?_) ?_; rotate_left 1; rfl; (obtain ⟨os1, d1, rfl⟩ := h1.more; go_simp; first | done | rfl))
  try simp only [Act.put, List.setIfInBounds_toArray, List.set_cons_zero, List.set_cons_succ]
  refine wpPl_nil ?_
  have hl0 : (dig0 q0).length ≤ 20 := by
    rw [dig0_length]
    have := (nd_le_iff q0 20).2 (Nat.lt_of_le_of_lt (by rw [← HQ0.out]; exact Nat.div_le_self _ _) (Nat.lt_trans (show P < 1000000000000000 by omega) (by decide)))
    omega
  have hst0 : DivSt W P Q 0 v r0 (more W os4 d4) (dig0 q0) := ⟨ho, dig0_all _, by omega, by rw [dig0_val, ← HQ0.out]; simp [T], by rw [← HR0.out]; simp [T], ext_more _ _ _⟩
  obtain ⟨i0, hi, hz0', hz1', hz2'⟩ := info_parts info_byte
  have HS0 := Lib.hid hst0
  have HQM := Lib.hid hqm
  clear hst0 ho hx hq hqm hqw hrw
  go_wp2_with fail
  go_loopw [8, 9, 10, 43] (fun v x r i wr => ∃ (j rr : Nat) (l : List Nat), j ≤ 32 ∧ rr < Q ∧ i = .int .i64 (j : Int) ∧ r = .int .u64 (rr : Int) ∧ x = .int .i64 (ea - eb - (j : Int)) ∧ Hid (DivSt W P Q j v rr wr l)) (fun _ _ _ i _ => 32 - (intOf i).toNat)
  case atStart => exact ⟨0, r0, dig0 q0, by omega, hr0b, rfl, by rw [HQM.out], by simp, HS0⟩
  case round =>
    obtain ⟨j, rr, l, hj, hrb, rfl, rfl, rfl, H⟩ := hrel
    have hX := H.out.ext
    obtain ⟨os, d, rfl⟩ := hX.more
    clear hX
    have hlen : l.length ≤ 60 := by have := H.out.len; omega
    by_cases hr0 : rr = 0
    · have e0 : ((rr : Int) == 0) = true := by simp [hr0]
      have e0b : (rr == 0) = true := by simp [hr0]
      have e1 : ((rr : Int) != 0) = false := by simp [hr0]
      have e1b : (rr != 0) = false := by simp [hr0]
      have HF : Hid (∀ neg, rnd neg (val l) false (ea - eb - (j : Int)) = divR neg P Q (ea - eb)) := by
        intro neg
        rw [H.out.value]
        exact divR_done _ _ hQ (by omega) (by rw [← H.out.rest]; exact hr0)
      clear hr0
      by_cases hj32 : j < 32
      · go_wp2_with (go_at_call 47; refine (round_own W _ _ l _ _ _ H.out.ext H.out.own H.out.all (by omega) (by omega)).mono ?_; rintro e w2' ⟨rfl, os2, d2, rfl⟩; rw [HF.out])
        exact bodyPost_ret (v := rnV (divR (!(decide (ma < 0) == decide (mb < 0))) P Q (ea - eb))) (by simp [results, Tryd.results31, go_sem, c4, c5, hz]; done) rfl ⟨(by rw [HPQ.out, HQQ.out]; rfl), ((hxW.set _ (by show w.heap.size ≤ w.heap.size + 1 + 1; omega)).set _ (by show w.heap.size ≤ w.heap.size + 1 + 1; omega)).more_ _ _⟩
      · go_wp2_with (go_at_call 47; refine (round_own W _ _ l _ _ _ H.out.ext H.out.own H.out.all (by omega) (by omega)).mono ?_; rintro e w2' ⟨rfl, os2, d2, rfl⟩; rw [HF.out])
        exact bodyPost_ret (v := rnV (divR (!(decide (ma < 0) == decide (mb < 0))) P Q (ea - eb))) (by simp [results, Tryd.results31, go_sem, c4, c5, hz]; done) rfl ⟨(by rw [HPQ.out, HQQ.out]; rfl), ((hxW.set _ (by show w.heap.size ≤ w.heap.size + 1 + 1; omega)).set _ (by show w.heap.size ≤ w.heap.size + 1 + 1; omega)).more_ _ _⟩
    · have e0 : ((rr : Int) == 0) = false := by simp [hr0]
      have e0b : (rr == 0) = false := by simp [hr0]
      have e1 : ((rr : Int) != 0) = true := by simp [hr0]
      have e1b : (rr != 0) = true := by simp [hr0]
      by_cases hj32 : j < 32
      · have HSTEP := Lib.hid (div_step (P := P) (j := j) hQ)
        rw [← H.out.rest] at HSTEP
        have w1 : IntKind.u64.wrap ((rr : Int) * 10) = (rr : Int) * 10 := by rw [IntKind.wrap_u64]; omega
        have w2 : (rr : Int) * 10 / (Q : Int) = ((10 * rr / Q : Nat) : Int) := by rw [Int.natCast_ediv, Int.natCast_mul, Int.mul_comm]; rfl
        have w3 : (rr : Int) * 10 % (Q : Int) = ((10 * rr % Q : Nat) : Int) := by rw [Int.natCast_emod, Int.natCast_mul, Int.mul_comm]; rfl
        have hd10 : 10 * rr / Q < 10 := HSTEP.out.2.2
        have hr2b : 10 * rr % Q < Q := Nat.mod_lt _ hQ
        generalize 10 * rr / Q = dd at *
        generalize 10 * rr % Q = r2 at *
        have w4 : IntKind.u64.wrap (dd : Int) = dd := by rw [IntKind.wrap_u64]; omega
        have w5 : IntKind.u8.wrap (dd : Int) = dd := by rw [IntKind.wrap_u8]; omega
        have w6 : IntKind.u64.wrap (r2 : Int) = r2 := by rw [IntKind.wrap_u64]; omega
        go_wp2_with (at_builtin; refine wpList_append_own _ rfl _ _ _ rfl W.heap.size 5 i0 (.int .u8 0) 1 1 Tryd.underlying50 hi hz0' hz1' hz2' rfl (by decide) _ l.length (b8 l) rfl (own_alloc H.out.own _) _ 1 1 [.int .u8 (dd : Int)] rfl rfl (Rd.one_ _ _ (by simp)).add (one_u8 _) (by simp [maxLen]; omega) (by omega) (by simp; omega) ?_; intro v3 w3' ho3 hg3 _)
        go_roundw
        case measure => simp [intOf]; omega
        case rel =>
          refine ⟨j + 1, r2, l ++ [dd], by omega, hr2b, by go_num, by rw [w3], by congr 1; omega, ?_⟩
          refine ⟨?_, H.out.all.append (AllD.cons hd10 AllD.nil), by have := H.out.len; simp; omega, ?_, ?_, own_step H.out.ext H.out.own hg3⟩
          · rw [b8, List.map_append]; simpa using ho3
          · rw [val_snoc, H.out.value]; exact HSTEP.out.1.symm
          · exact HSTEP.out.2.1.symm
      · have HF : Hid (∀ neg, rnd neg (val (l ++ [1])) false (ea - eb - (j : Int) - 1) = divR neg P Q (ea - eb)) := by
          intro neg
          obtain rfl : j = 32 := by omega
          have hr1 : P * T 32 % Q ≠ 0 := by rw [← H.out.rest]; exact hr0
          have hP0 : 0 < P := by
            rcases Nat.eq_zero_or_pos P with h0 | h0
            · rw [h0, Nat.zero_mul, Nat.zero_mod] at hr1; exact absurd rfl hr1
            · exact h0
          have hT15 : Q < T 15 := by have : T 15 = 1000000000000000 := by decide
                                     omega
          rw [val_snoc, H.out.value, ← divR_more neg (ea - eb) hP0 hQ hT15 hr1]
          congr 1
          omega
        clear hr0
        go_wp2_with (first | (at_builtin; refine wpList_append_own _ rfl _ _ _ rfl W.heap.size 5 i0 (.int .u8 0) 1 1 Tryd.underlying50 hi hz0' hz1' hz2' rfl (by decide) _ l.length (b8 l) rfl (own_alloc H.out.own _) _ 1 1 [.int .u8 1] rfl rfl (Rd.one_ _ _ (by simp)).add (one_u8 _) (by simp [maxLen]; omega) (by omega) (by simp; omega) ?_; intro v3 w3' ho3 hg3 _; have hx3 := own_step H.out.ext H.out.own hg3; obtain ⟨os3, d3, rfl⟩ := hx3.more; clear hg3) | (go_at_call 47; refine (round_own W _ _ (l ++ [1]) _ _ _ hx3 (by rw [b8, List.map_append]; exact ho3) (H.out.all.append (AllD.cons (by omega) AllD.nil)) (by simp; omega) (by omega)).mono ?_; rintro e w2' ⟨rfl, os2, d2, rfl⟩; rw [HF.out]))
        exact bodyPost_ret (v := rnV (divR (!(decide (ma < 0) == decide (mb < 0))) P Q (ea - eb))) (by simp [results, Tryd.results31, go_sem, c4, c5, hz]; done) rfl ⟨(by rw [HPQ.out, HQQ.out]; rfl), ((hxW.set _ (by show w.heap.size ≤ w.heap.size + 1 + 1; omega)).set _ (by show w.heap.size ≤ w.heap.size + 1 + 1; omega)).more_ _ _⟩
def divS (ma ea mb eb : Int) : Option (Int × Int) := if Rt ma ea ∧ Rt mb eb ∧ mb ≠ 0 then divR (ngB ma mb) ma.natAbs mb.natAbs (ea - eb) else none
theorem div_any (ma ea mb eb : Int) (w : World) (htab : Tab w) (hma : I64 ma) (hmb : I64 mb) :
    Calls Tryd.prog 31 #[NV ma ea, NV mb eb] w fun e w' => e = .returned (rnV (divS ma ea mb eb)) ∧ Ext w w' := by
  unfold divS
  split
  · rename_i h; exact div_yes ma ea mb eb w htab h.1 h.2.1 h.2.2
  · rename_i h; exact div_no ma ea mb eb w hma hmb h
end Go.Proofs.YtihfiegopnjeiaaDoor
