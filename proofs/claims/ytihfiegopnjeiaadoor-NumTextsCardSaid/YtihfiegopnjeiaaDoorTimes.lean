/- counterpaneref01.Times, Mul. -/
import Derived.Test.YtihfiegopnjeiaaDoorRAdd
namespace Go.Proofs.YtihfiegopnjeiaaDoor
set_option linter.unusedSimpArgs false
set_option linter.unusedVariables false
open Go.RowKit NM

/-- What Times keeps: the digits of its result in a block of its own. -/
structure TSt (W : World) (L z : Nat) (O : List Nat) (wr : World) : Prop where
  out : Dg .i64 3 W.heap.size wr (some ⟨W.heap.size, 0, none⟩) L O
  len : O.length = L
  all : AllD O
  zer : ∀ p, p ≤ z → p < L → O[p]? = some 0
  ext : Ext W wr
theorem TSt.at {W wr : World} {L z p d : Nat} {O : List Nat} (h : TSt W L z O wr) (hd : O[p]? = some d) : wr.cell? ⟨W.heap.size, p, none⟩ = some (.int .i64 (d : Int)) ∧ wr.frozen? ⟨W.heap.size, p, none⟩ = false := by
  obtain ⟨b, off, h1, _, h2, h3⟩ := h.out.at hd
  simp only [Option.some.injEq, Addr.mk.injEq, and_true] at h1
  obtain ⟨rfl, rfl⟩ := h1
  rw [Nat.zero_add] at h2 h3
  exact ⟨h2, h3⟩
theorem TSt.set {W wr : World} {L z p d : Nat} {O : List Nat} (h : TSt W L z O wr) (hd : d < 10) (hp : p < L) (z' : Nat) (hz : z' ≤ z) (hzp : z' < p) : TSt W L z' (O.set p d) (wr.setCell ⟨W.heap.size, p, none⟩ (.int .i64 (d : Int))) := by
  have := h.out.set (i := p) (d := d) (by rw [h.len]; exact hp)
  rw [Nat.zero_add] at this
  exact ⟨this, by rw [List.length_set]; exact h.len, h.all.set hd, fun q hq hL => by rw [List.getElem?_set_ne (by omega)]; exact h.zer q (by omega) hL, h.ext.set _ (Nat.le_refl _)⟩
theorem TSt.drew {W wr : World} {L z : Nat} {O : List Nat} (h : TSt W L z O wr) : TSt W L z O wr.drew := ⟨h.out, h.len, h.all, h.zer, h.ext.drew⟩
/-- One place of a row of a product. -/
theorem times_step {O lb : List Nat} {V A s n q p o b c : Nat} (hL : O.length - 1 - p = s + (n - (q + 1))) (ho : O[p]? = some o) (hb : lb[q]? = some b) (hn : lb.length = n) (h : val O + c * T (s + (n - (q + 1))) = V + A * val (lb.drop (q + 1)) * T s) :
    val (O.set p ((o + A * b + c) % 10)) + (o + A * b + c) / 10 * T (s + (n - q)) = V + A * val (lb.drop q) * T s := by
  have hq := lt_at hb
  have h1 := val_set ((o + A * b + c) % 10) ho
  rw [hL] at h1
  have h2 : val (lb.drop q) = b * T (n - (q + 1)) + val (lb.drop (q + 1)) := by
    rw [drop_at hb, val_cons, List.length_drop, hn]
  have h3 : T (s + (n - q)) = 10 * T (s + (n - (q + 1))) := by rw [← T_succ]; congr 1; omega
  have h4 : A * val (lb.drop q) * T s = A * b * T (s + (n - (q + 1))) + A * val (lb.drop (q + 1)) * T s := by
    rw [h2, Nat.mul_add, Nat.add_mul, T_add, Nat.mul_comm (T s) (T (n - (q + 1))), Nat.mul_assoc A b, Nat.mul_assoc, Nat.mul_assoc, Nat.mul_assoc]
  rw [h3, h4]
  generalize T (s + (n - (q + 1))) = t at *
  generalize val O = vO at *
  generalize val (O.set p ((o + A * b + c) % 10)) = vN at *
  generalize A * val (lb.drop (q + 1)) * T s = R at *
  have h5 := Nat.div_add_mod (o + A * b + c) 10
  generalize (o + A * b + c) / 10 = dq at *
  generalize (o + A * b + c) % 10 = dr at *
  generalize A * b = ab at *
  have h6 : (10 * dq + dr) * t = (o + ab + c) * t := by rw [h5]
  rw [Nat.add_mul, Nat.add_mul, Nat.add_mul] at h6
  have h7 : dq * (10 * t) = 10 * dq * t := by rw [← Nat.mul_assoc, Nat.mul_comm dq 10]
  rw [h7]
  omega
set_option maxRecDepth 100000 in
set_option maxHeartbeats 4000000 in
theorem times_any (na nb : Bool) (A B : Option Addr) (ca cb m n : Nat) (la lb : List Nat) (ea eb : Int) (w : World) (ha : Rd 0 w A (i6 la)) (hb : Rd 0 w B (i6 lb)) (hm : la.length = m) (hn : lb.length = n) (hmb : m ≤ 1000) (hnb : n ≤ 1000) (hda : AllD la) (hdb : AllD lb) (hea : -1000 ≤ ea ∧ ea ≤ 1000) (heb : -1000 ≤ eb ∧ eb ≤ 1000) :
    Calls Tryd.prog 46 #[DecV na A m ca ea, DecV nb B n cb eb] w fun r w' => DecOut w (!(na == nb)) (m + n + 1) (val la * val lb) (ea + eb) r w' ∧ Ext w w' := by
  have HA := Lib.hid ha
  have HB := Lib.hid hb
  have HM := Lib.hid hm
  have HN := Lib.hid hn
  clear ha hb hm hn
  have hmk := make_int (m + n + 1) (by omega)
  rw [show (((m + n + 1 : Nat)) : Int) = (m : Int) + (n : Int) + 1 by omega] at hmk
  go_enter Tryd.func46, Tryd.ntmps46
  go_upto_region 1 with fail
  refine wp_world fun W hW => ?_
  have a0 : W.cell? ⟨w.heap.size, 0, none⟩ = some (.bool na) := by rw [hW]; go_simp
  have a1 : W.cell? ⟨w.heap.size, 1, none⟩ = some (.slice A m ca) := by rw [hW]; go_simp
  have a2 : W.cell? ⟨w.heap.size, 2, none⟩ = some (.int .i64 ea) := by rw [hW]; go_simp
  have b0 : W.cell? ⟨w.heap.size + 1, 0, none⟩ = some (.bool nb) := by rw [hW]; go_simp
  have b1 : W.cell? ⟨w.heap.size + 1, 1, none⟩ = some (.slice B n cb) := by rw [hW]; go_simp
  have b2 : W.cell? ⟨w.heap.size + 1, 2, none⟩ = some (.int .i64 eb) := by rw [hW]; go_simp
  have r0 : W.cell? ⟨w.heap.size + 1 + 1, 0, none⟩ = some (.bool false) := by rw [hW]; go_simp
  have r1 : W.cell? ⟨w.heap.size + 1 + 1, 1, none⟩ = some (.slice none 0 0) := by rw [hW]; go_simp
  have r2 : W.cell? ⟨w.heap.size + 1 + 1, 2, none⟩ = some (.int .i64 0) := by rw [hW]; go_simp
  have q0 : W.frozen? ⟨w.heap.size + 1 + 1, 0, none⟩ = false := by rw [hW]; go_simp
  have q1 : W.frozen? ⟨w.heap.size + 1 + 1, 1, none⟩ = false := by rw [hW]; go_simp
  have q2 : W.frozen? ⟨w.heap.size + 1 + 1, 2, none⟩ = false := by rw [hW]; go_simp
  have hz : w.heap.size + 1 + 1 < W.heap.size := by rw [hW]; simp; try omega
  have hz1 : w.heap.size + 1 < W.heap.size := by omega
  have hz0 : w.heap.size < W.heap.size := by omega
  have hxW : Ext w W := by rw [hW]; exact by repeat (first | with_reducible exact Ext.refl _ | with_reducible apply Ext.drew | with_reducible apply Ext.alloc | with_reducible apply Ext.more_)
  clear hW
  have HX : Hid (Rd 0 W A (i6 la)) := HA.out.ext hxW
  have HY : Hid (Rd 0 W B (i6 lb)) := HB.out.ext hxW
  have HS : Hid (TSt W (m + n + 1) (m + n) (List.replicate (m + n + 1) 0) (W.alloc (.cells (madeCells #[.int .i64 0] (m + n + 1)) 3))) := ⟨made_dg (k := .i64) (ty := 3) (w := W) (m + n + 1) rfl (Nat.le_refl _), by simp, AllD.rep _ _ (by omega), fun p h1 h2 => by rw [List.getElem?_replicate, if_pos h2], (Ext.refl _).alloc _⟩
  go_wp2
  go_loopw [6] (fun i wr => ∃ (j : Nat) (O : List Nat), j ≤ m ∧ i = .int .i64 ((j : Int) - 1) ∧ Hid (TSt W (m + n + 1) j O wr) ∧ Hid (val O = val (la.drop j) * val lb)) (fun i _ => ((intOf i) + 1).toNat)
  case atStart =>
    refine ⟨m, _, Nat.le_refl _, by go_num, ⟨HS.out.out, HS.out.len, HS.out.all, fun p h1 h2 => HS.out.zer p (by omega) h2, HS.out.ext⟩, ?_⟩
    show _ = _
    rw [val_rep0, List.drop_eq_nil_of_le (by rw [HM.out]; exact Nat.le_refl _), val_nil, Nat.zero_mul]
  case round =>
    obtain ⟨j, O, hj, rfl, H, HV⟩ := hrel
    have hxr := H.out.ext
    have hsz := hxr.size
    have a0' := hxr.cell_some a0
    have a1' := hxr.cell_some a1
    have a2' := hxr.cell_some a2
    have b0' := hxr.cell_some b0
    have b1' := hxr.cell_some b1
    have b2' := hxr.cell_some b2
    cases j with
    | zero =>
      have r0' := hxr.cell_some r0
      have r1' := hxr.cell_some r1
      have r2' := hxr.cell_some r2
      have q0' := (hxr.frozen (p := ⟨w.heap.size + 1 + 1, 0, none⟩) (by show w.heap.size + 1 + 1 < _; omega)).trans q0
      have q1' := (hxr.frozen (p := ⟨w.heap.size + 1 + 1, 1, none⟩) (by show w.heap.size + 1 + 1 < _; omega)).trans q1
      have q2' := (hxr.frozen (p := ⟨w.heap.size + 1 + 1, 2, none⟩) (by show w.heap.size + 1 + 1 < _; omega)).trans q2
      have hz' : w.heap.size + 1 + 1 < wr.heap.size := by omega
      go_wp2
      refine bodyPost_ret (v := DecV (!(na == nb)) (some ⟨W.heap.size, 0, none⟩) (m + n + 1) (m + n + 1) (ea + eb)) (by simp [results, Tryd.results46, go_sem, hz', r0', r1', r2']; done) rfl ⟨⟨_, _, O, rfl, ?_, H.out.len, H.out.all, ?_, Nat.le_refl _⟩, ?_⟩
      · exact (((H.out.out.rd.set_low _ hz).set_low _ hz).set_low _ hz).mono (by omega)
      · have := HV.out
        rw [List.drop_zero] at this
        exact this
      · exact ((((hxW.trans hxr).set _ (by show w.heap.size ≤ w.heap.size + 1 + 1; omega)).set _ (by show w.heap.size ≤ w.heap.size + 1 + 1; omega)).set _ (by show w.heap.size ≤ w.heap.size + 1 + 1; omega))
    | succ i =>
      have hiM : i < m := by omega
      obtain ⟨x, hxi⟩ : ∃ x, la[i]? = some x := ⟨la[i]'(by have := HM.out; omega), by rw [List.getElem?_eq_getElem]⟩
      have hx10 := hda.at hxi
      have hji : (((i + 1 : Nat) : Int) - 1) = (i : Int) := by omega
      rw [hji]
      obtain ⟨ba, oa, hAe, _, hcx⟩ := Rd.at_ HX.out hxi
      have HXI := Lib.hid hxi
      clear hxi
      go_wp2
      go_loopw [7, 8] (fun c k wq => ∃ (q cc : Nat) (O' : List Nat), q ≤ n ∧ cc ≤ 9 ∧ k = .int .i64 ((q : Int) - 1) ∧ c = .int .i64 (cc : Int) ∧ Hid (TSt W (m + n + 1) (i + 1) O' wq) ∧ Hid (val O' + cc * T (m - (i + 1) + (n - q)) = val O + x * val (lb.drop q) * T (m - (i + 1)))) (fun _ k _ => ((intOf k) + 1).toNat)
      case atStart =>
        refine ⟨n, 0, O, Nat.le_refl _, by omega, by go_num, rfl, H, ?_⟩
        show _ = _
        rw [List.drop_eq_nil_of_le (by rw [HN.out]; exact Nat.le_refl _), val_nil]; simp
      case round =>
        obtain ⟨q, cc, O', hq, hcc, rfl, rfl, H', HV'⟩ := hrel
        have hxq := H'.out.ext
        have hszq := hxq.size
        have a1q := hxq.cell_some a1
        have b1q := hxq.cell_some b1
        clear a0' a1' a2' b0' b1' b2'
        cases q with
        | zero =>
          obtain ⟨o0, o1⟩ := H'.out.at (H'.out.zer (i + 1) (Nat.le_refl _) (by omega))
          have HN2 := Lib.hid (H'.out.set (d := cc) (p := i + 1) (by omega) (by omega) i (by omega) (by omega))
          have hvs := val_set cc (H'.out.zer (i + 1) (Nat.le_refl _) (by omega))
          have HVN : Hid (val (O'.set (i + 1) cc) = val (la.drop i) * val lb) := by
            show _ = _
            have h1 := HV'.out
            rw [List.drop_zero, Nat.sub_zero, HV.out] at h1
            rw [H'.out.len, show m + n + 1 - 1 - (i + 1) = m - (i + 1) + n by omega] at hvs
            rw [drop_at HXI.out, val_cons, List.length_drop, HM.out, Nat.add_mul]
            have h2 : x * T (m - (i + 1)) * val lb = x * val lb * T (m - (i + 1)) := by rw [Nat.mul_assoc, Nat.mul_comm (T _), ← Nat.mul_assoc]
            omega
          go_wp2
          exact ⟨⟨i, _, by omega, by go_num, HN2, HVN⟩, by simp [intOf]⟩
        | succ k =>
          have hkN : k < n := by omega
          obtain ⟨y, hyk⟩ : ∃ y, lb[k]? = some y := ⟨lb[k]'(by have := HN.out; omega), by rw [List.getElem?_eq_getElem]⟩
          have hy10 := hdb.at hyk
          obtain ⟨bb, ob, hBe, _, hcy⟩ := Rd.at_ HY.out hyk
          obtain ⟨o, hok⟩ : ∃ o, O'[i + k + 2]? = some o := ⟨O'[i + k + 2]'(by have := H'.out.len; omega), by rw [List.getElem?_eq_getElem]⟩
          have ho10 := H'.out.all.at hok
          obtain ⟨o0, o1⟩ := H'.out.at hok
          have HST := Lib.hid (times_step (V := val O) (A := x) (s := m - (i + 1)) (n := n) (q := k) (c := cc) (by rw [H'.out.len]; omega) hok hyk HN.out HV'.out)
          have hxy : x * y ≤ 81 := Nat.mul_le_mul (show x ≤ 9 by omega) (show y ≤ 9 by omega)
          have HSE := Lib.hid (fun d (hd : d < 10) => H'.out.set (d := d) (p := i + k + 2) hd (by omega) (i + 1) (Nat.le_refl _) (by omega))
          have hcxq := hxq.cell_some hcx
          have hcyq := hxq.cell_some hcy
          rw [hAe] at a1q
          rw [hBe] at b1q
          have hki : (((k + 1 : Nat) : Int) - 1) = (k : Int) := by omega
          rw [hki]
          obtain ⟨ik, hik⟩ : ∃ ik : Nat, (i : Int) + (k : Int) = (ik : Int) := ⟨i + k, by omega⟩
          have hpp : ((ik : Int) + 2) = ((i + k + 2 : Nat) : Int) := by omega
          have hikw : IntKind.i64.wrap (ik : Int) = (ik : Int) := i64w (by omega) (by omega)
          have hppw : IntKind.i64.wrap ((i + k + 2 : Nat) : Int) = ((i + k + 2 : Nat) : Int) := i64w (by omega) (by omega)
          have hxyw : IntKind.i64.wrap ((x * y : Nat) : Int) = ((x * y : Nat) : Int) := i64w (by omega) (by omega)
          have hpL : i + k + 2 < m + n + 1 := by omega
          have hpLi : ((i + k + 2 : Nat) : Int) < (m : Int) + (n : Int) + 1 := by omega
          have hxyi : (x : Int) * (y : Int) = ((x * y : Nat) : Int) := by rw [Int.natCast_mul]
          generalize hXY : x * y = xy at *
          have t1 : ((o : Int) + (xy : Int) + (cc : Int)) % 10 = (((o + xy + cc) % 10 : Nat) : Int) := rfl
          have t3 : ((o : Int) + (xy : Int) + (cc : Int)).tmod 10 = (((o + xy + cc) % 10 : Nat) : Int) := rfl
          have t2 : ((o : Int) + (xy : Int) + (cc : Int)).tdiv 10 = (((o + xy + cc) / 10 : Nat) : Int) := rfl
          have hd1 : (o + xy + cc) % 10 < 10 := by omega
          have hd2 : (o + xy + cc) / 10 ≤ 9 := by omega
          have HSD := Lib.hid (HSE.out _ hd1)
          have l1 := lt_of_cell hcxq
          have l2 := lt_of_cell hcyq
          have l3 := lt_of_cell o0
          simp only at l1 l2 l3
          have l4 : w.heap.size < wr.heap.size := by omega
          have l5 : w.heap.size + 1 < wr.heap.size := by omega
          clear hok hyk HSE
          generalize i + k + 2 = p at *
          generalize (o + xy + cc) % 10 = dg at *
          generalize (o + xy + cc) / 10 = c2 at *
          go_wp2
          refine wp_plan (S := Ext _) [(0, 0), (1, 0), (2, 0), (3, 0), (4, 0), (5, 0), (6, 0), (7, 0), (8, 0), (9, 0), (10, 0), (11, 0), (12, 0), (13, 0), (14, 0), (15, 0), (16, 0), (17, 0), (18, 0), (19, 0), (20, 0), (21, 0)] [] (by kernel_rfl) (by kernel_rfl) (by kernel_rfl) (fun _ _ d _ _ h => by cases d <;> exact h) (Ext.drew (Ext.refl _)) ?_
          (refine wpPl_read (v := ?_) rfl ?_ (fun w1 h1 => ?_) ?_; rotate_left 1; rfl; (obtain ⟨os1, d1, rfl⟩ := h1.more; go_simp; first | done | rfl))
          try simp only [Act.put, List.setIfInBounds_toArray, List.set_cons_zero, List.set_cons_succ]
          (refine wpPl_read (v := ?_) rfl ?_ (fun w1 h1 => ?_) ?_; rotate_left 1; rfl; (obtain ⟨os1, d1, rfl⟩ := h1.more; go_simp; first | done | rfl))
          try simp only [Act.put, List.setIfInBounds_toArray, List.set_cons_zero, List.set_cons_succ]
          (refine wpPl_read (v := ?_) rfl ?_ (fun w1 h1 => ?_) ?_; rotate_left 1; rfl; (obtain ⟨os1, d1, rfl⟩ := h1.more; go_simp; first | done | rfl))
          try simp only [Act.put, List.setIfInBounds_toArray, List.set_cons_zero, List.set_cons_succ]
          (refine wpPl_read (v := ?_) rfl ?_ (fun w1 h1 => ?_) ?_; rotate_left 1; rfl; (obtain ⟨os1, d1, rfl⟩ := h1.more; go_simp; first | done | rfl))
          try simp only [Act.put, List.setIfInBounds_toArray, List.set_cons_zero, List.set_cons_succ]
          (refine wpPl_read (v := ?_) rfl ?_ (fun w1 h1 => ?_) ?_; rotate_left 1; rfl; (obtain ⟨os1, d1, rfl⟩ := h1.more; go_simp; first | done | rfl))
          try simp only [Act.put, List.setIfInBounds_toArray, List.set_cons_zero, List.set_cons_succ]
          (refine wpPl_read (v := ?_) rfl ?_ (fun w1 h1 => ?_) ?_; rotate_left 1; rfl; (obtain ⟨os1, d1, rfl⟩ := h1.more; go_simp; first | done | rfl))
          try simp only [Act.put, List.setIfInBounds_toArray, List.set_cons_zero, List.set_cons_succ]
          (refine wpPl_read (v := ?_) rfl ?_ (fun w1 h1 => ?_) ?_; rotate_left 1; rfl; (obtain ⟨os1, d1, rfl⟩ := h1.more; go_simp; first | done | rfl))
          try simp only [Act.put, List.setIfInBounds_toArray, List.set_cons_zero, List.set_cons_succ]
          (refine wpPl_read (v := ?_) rfl ?_ (fun w1 h1 => ?_) ?_; rotate_left 1; rfl; (obtain ⟨os1, d1, rfl⟩ := h1.more; go_simp; first | done | rfl))
          try simp only [Act.put, List.setIfInBounds_toArray, List.set_cons_zero, List.set_cons_succ]
          (refine wpPl_read (v := ?_) rfl ?_ (fun w1 h1 => ?_) ?_; rotate_left 1; rfl; (obtain ⟨os1, d1, rfl⟩ := h1.more; go_simp; first | done | rfl))
          try simp only [Act.put, List.setIfInBounds_toArray, List.set_cons_zero, List.set_cons_succ]
          (refine wpPl_read (v := ?_) rfl ?_ (fun w1 h1 => ?_) ?_; rotate_left 1; rfl; (obtain ⟨os1, d1, rfl⟩ := h1.more; go_simp; first | done | rfl))
          try simp only [Act.put, List.setIfInBounds_toArray, List.set_cons_zero, List.set_cons_succ]
          (refine wpPl_read (v := ?_) rfl ?_ (fun w1 h1 => ?_) ?_; rotate_left 1; rfl; (obtain ⟨os1, d1, rfl⟩ := h1.more; go_simp; first | done | rfl))
          try simp only [Act.put, List.setIfInBounds_toArray, List.set_cons_zero, List.set_cons_succ]
          (refine wpPl_read (v := ?_) rfl ?_ (fun w1 h1 => ?_) ?_; rotate_left 1; rfl; (obtain ⟨os1, d1, rfl⟩ := h1.more; go_simp; first | done | rfl))
          try simp only [Act.put, List.setIfInBounds_toArray, List.set_cons_zero, List.set_cons_succ]
          (refine wpPl_read (v := ?_) rfl ?_ (fun w1 h1 => ?_) ?_; rotate_left 1; rfl; (obtain ⟨os1, d1, rfl⟩ := h1.more; go_simp; first | done | rfl))
          try simp only [Act.put, List.setIfInBounds_toArray, List.set_cons_zero, List.set_cons_succ]
          (refine wpPl_read (v := ?_) rfl ?_ (fun w1 h1 => ?_) ?_; rotate_left 1; rfl; (obtain ⟨os1, d1, rfl⟩ := h1.more; go_simp; first | done | rfl))
          try simp only [Act.put, List.setIfInBounds_toArray, List.set_cons_zero, List.set_cons_succ]
          (refine wpPl_read (v := ?_) rfl ?_ (fun w1 h1 => ?_) ?_; rotate_left 1; rfl; (obtain ⟨os1, d1, rfl⟩ := h1.more; go_simp; first | done | rfl))
          try simp only [Act.put, List.setIfInBounds_toArray, List.set_cons_zero, List.set_cons_succ]
          (refine wpPl_read (v := ?_) rfl ?_ (fun w1 h1 => ?_) ?_; rotate_left 1; rfl; (obtain ⟨os1, d1, rfl⟩ := h1.more; go_simp; first | done | rfl))
          try simp only [Act.put, List.setIfInBounds_toArray, List.set_cons_zero, List.set_cons_succ]
          (refine wpPl_read (v := ?_) rfl ?_ (fun w1 h1 => ?_) ?_; rotate_left 1; rfl; (obtain ⟨os1, d1, rfl⟩ := h1.more; go_simp; first | done | rfl))
          try simp only [Act.put, List.setIfInBounds_toArray, List.set_cons_zero, List.set_cons_succ]
          (refine wpPl_read (v := ?_) rfl ?_ (fun w1 h1 => ?_) ?_; rotate_left 1; rfl; (obtain ⟨os1, d1, rfl⟩ := h1.more; go_simp; first | done | rfl))
          try simp only [Act.put, List.setIfInBounds_toArray, List.set_cons_zero, List.set_cons_succ]
          (refine wpPl_read (v := ?_) rfl ?_ (fun w1 h1 => ?_) ?_; rotate_left 1; rfl; (obtain ⟨os1, d1, rfl⟩ := h1.more; go_simp; first | done | rfl))
          try simp only [Act.put, List.setIfInBounds_toArray, List.set_cons_zero, List.set_cons_succ]
          (refine wpPl_read (v := ?_) rfl ?_ (fun w1 h1 => ?_) ?_; rotate_left 1; rfl; (obtain ⟨os1, d1, rfl⟩ := h1.more; go_simp; first | done | rfl))
          try simp only [Act.put, List.setIfInBounds_toArray, List.set_cons_zero, List.set_cons_succ]
          (refine wpPl_read (v := ?_) rfl ?_ (fun w1 h1 => ?_) ?_; rotate_left 1; rfl; (obtain ⟨os1, d1, rfl⟩ := h1.more; go_simp; first | done | rfl))
          try simp only [Act.put, List.setIfInBounds_toArray, List.set_cons_zero, List.set_cons_succ]
          (refine wpPl_read (v := ?_) rfl ?_ (fun w1 h1 => ?_) ?_; rotate_left 1; rfl; (obtain ⟨os1, d1, rfl⟩ := h1.more; go_simp; first | done | rfl))
          try simp only [Act.put, List.setIfInBounds_toArray, List.set_cons_zero, List.set_cons_succ]
          refine wpPl_nil ?_
          go_wp2
          refine ⟨⟨k, c2, _, by omega, hd2, by go_num, by rw [t2], HSD.out.drew, HST⟩, by simp [intOf]⟩
end Go.Proofs.YtihfiegopnjeiaaDoor
