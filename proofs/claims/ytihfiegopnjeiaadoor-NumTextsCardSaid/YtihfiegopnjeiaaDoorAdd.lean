/- num.Add, num.Sub. -/
import Derived.Test.YtihfiegopnjeiaaDoorSettle
import Derived.Test.YtihfiegopnjeiaaDoorRAdd
namespace Go.Proofs.YtihfiegopnjeiaaDoor
set_option linter.unusedSimpArgs false
set_option linter.unusedVariables false
open Go.RowKit NM

theorem Ext.trans_below {W w3 w4 : World} {base : Nat} (h : Ext W w3) (hb : Below base w3 w4) (hs : W.heap.size ≤ base) : Ext W w4 := Below.trans h (Below.mono hb hs)
theorem pad_val {neg : Bool} {n : Nat} {D : List Nat} : valI (pad neg n D.length D) = sg neg (val D) := by
  unfold pad
  have h0 : ∀ (k : Nat) (l : List Int), valI (List.replicate k 0 ++ l) = valI l := by
    intro k l
    induction k with
    | zero => rfl
    | succ k ih => rw [List.replicate_succ, List.cons_append, valI_cons, ih]; omega
  rw [h0, Nat.sub_self, List.replicate_zero, List.append_nil, List.take_length]
  cases neg with
  | false => exact valI_nat D
  | true =>
    have : (D.map fun d => sg true d) = (D.map fun d : Nat => (d : Int)).map fun x => -x := by rw [List.map_map]; rfl
    rw [this, valI_neg, valI_nat]; rfl
theorem pad_sign {neg : Bool} {n i : Nat} {D : List Nat} (hD : AllD D) : ∀ x ∈ pad neg n i D, if neg then -9 ≤ x ∧ x ≤ 0 else 0 ≤ x ∧ x ≤ 9 := by
  intro x hx
  unfold pad at hx
  rcases List.mem_append.1 hx with h | h
  · rw [List.eq_of_mem_replicate h]; split <;> omega
  · rcases List.mem_append.1 h with h | h
    · obtain ⟨d, hd, rfl⟩ := List.mem_map.1 h
      have := hD d (List.mem_of_mem_take hd)
      cases neg <;> simp [sg] <;> omega
    · rw [List.eq_of_mem_replicate h]; split <;> omega
/-- Both numbers' digits, added up place by place. -/
def both (na nb : Bool) (n : Nat) (X Y : List Nat) : List Int := List.zipWith (· + ·) (List.zipWith (· + ·) (List.replicate n 0) (pad na n X.length X)) (pad nb n Y.length Y)
theorem mem_zip {a b : List Int} {z : Int} (h : z ∈ List.zipWith (· + ·) a b) : ∃ x ∈ a, ∃ y ∈ b, z = x + y := by
  obtain ⟨j, hj⟩ := List.getElem?_of_mem h
  rw [List.getElem?_zipWith] at hj
  cases ha : a[j]? with
  | none => rw [ha] at hj; simp at hj
  | some x =>
    cases hb : b[j]? with
    | none => rw [ha, hb] at hj; simp at hj
    | some y =>
      rw [ha, hb] at hj
      simp at hj
      exact ⟨x, List.mem_of_getElem? ha, y, List.mem_of_getElem? hb, hj.symm⟩
theorem both_mem {na nb : Bool} {n : Nat} {X Y : List Nat} {z : Int} (h : z ∈ both na nb n X Y) : ∃ x ∈ pad na n X.length X, ∃ y ∈ pad nb n Y.length Y, z = x + y := by
  obtain ⟨u, hu, y, hy, rfl⟩ := mem_zip h
  obtain ⟨v, hv, x, hx, rfl⟩ := mem_zip hu
  rw [List.eq_of_mem_replicate hv]
  exact ⟨x, hx, y, hy, by omega⟩
theorem both_ok {na nb : Bool} {n : Nat} {X Y : List Nat} (hX : AllD X) (hY : AllD Y) : DOk (both na nb n X Y) := by
  cases na <;> cases nb
  · refine Or.inr (Or.inl fun z hz => ?_)
    obtain ⟨x, hx, y, hy, rfl⟩ := both_mem hz
    have h1 := pad_sign hX x hx
    have h2 := pad_sign hY y hy
    simp at h1 h2; omega
  · refine Or.inl fun z hz => ?_
    obtain ⟨x, hx, y, hy, rfl⟩ := both_mem hz
    have h1 := pad_sign hX x hx
    have h2 := pad_sign hY y hy
    simp at h1 h2; omega
  · refine Or.inl fun z hz => ?_
    obtain ⟨x, hx, y, hy, rfl⟩ := both_mem hz
    have h1 := pad_sign hX x hx
    have h2 := pad_sign hY y hy
    simp at h1 h2; omega
  · refine Or.inr (Or.inr fun z hz => ?_)
    obtain ⟨x, hx, y, hy, rfl⟩ := both_mem hz
    have h1 := pad_sign hX x hx
    have h2 := pad_sign hY y hy
    simp at h1 h2; omega
theorem both_length {na nb : Bool} {n : Nat} {X Y : List Nat} (hX : X.length ≤ n) (hY : Y.length ≤ n) : (both na nb n X Y).length = n := by
  unfold both
  rw [List.length_zipWith, List.length_zipWith, pad_length hX (Nat.le_refl _), pad_length hY (Nat.le_refl _), List.length_replicate]; omega
theorem both_val {na nb : Bool} {n : Nat} {X Y : List Nat} (hX : X.length ≤ n) (hY : Y.length ≤ n) : valI (both na nb n X Y) = sg na (val X) + sg nb (val Y) := by
  unfold both
  rw [valI_zip _ _ (by rw [List.length_zipWith, pad_length hX (Nat.le_refl _), pad_length hY (Nat.le_refl _), List.length_replicate]; omega), valI_zip _ _ (by rw [pad_length hX (Nat.le_refl _), List.length_replicate]), valI_rep0, pad_val, pad_val]; omega
theorem both_lt {na nb : Bool} {n : Nat} {X Y : List Nat} (hX : AllD X) (hY : AllD Y) (h : max X.length Y.length + 1 = n) : (valI (both na nb n X Y)).natAbs < T n := by
  rw [both_val (by omega) (by omega)]
  have h1 := Nat.lt_of_lt_of_le (val_lt hX) (T_mono (show X.length ≤ n - 1 by omega))
  have h2 := Nat.lt_of_lt_of_le (val_lt hY) (T_mono (show Y.length ≤ n - 1 by omega))
  have h3 : T n = 10 * T (n - 1) := by rw [← T_succ]; congr 1; omega
  rw [h3]
  generalize T (n - 1) = t at *
  cases na <;> cases nb <;> simp [sg] <;> omega
theorem sprd_val (m : Int) (k : Nat) : val (sprd m k) = m.natAbs * T k := by unfold sprd; rw [val_zeros, dig0_val]
theorem sprd_all (m : Int) (k : Nat) : AllD (sprd m k) := (dig0_all _).append (AllD.rep _ _ (by omega))
set_option maxRecDepth 100000 in
set_option maxHeartbeats 2000000 in
theorem add_no (ma ea mb eb : Int) (w : World) (hma : I64 ma) (hmb : I64 mb) (h : ¬ (Rt ma ea ∧ Rt mb eb)) :
    Calls Tryd.prog 36 #[NV ma ea, NV mb eb] w fun e w' => e = .returned (rnV none) ∧ Ext w w' := by
  by_cases h1 : Rt ma ea
  · have r1 := rtB_yes h1
    have r2 := rtB_no (fun h2 => h ⟨h1, h2⟩)
    clear h h1
    go_enter Tryd.func36, Tryd.ntmps36
    go_wp2_with (go_at_call 17; (with_reducible refine (right_rt _ _ _ (by assumption)).mono ?_); rintro e w' ⟨rfl, hbr⟩; obtain ⟨osr, dr, rfl⟩ := hbr.more)
    exact bodyPost_ret (v := .tuple #[NV 0 0, .bool false]) (by simp [results, Tryd.results36, go_sem]; done) rfl ⟨rfl, by repeat (first | with_reducible exact Ext.refl _ | with_reducible apply Ext.drew | with_reducible apply Ext.alloc | with_reducible apply Ext.more_)⟩
  · have r1 := rtB_no h1
    clear h h1
    go_enter Tryd.func36, Tryd.ntmps36
    go_wp2_with (go_at_call 17; (with_reducible refine (right_rt _ _ _ (by assumption)).mono ?_); rintro e w' ⟨rfl, hbr⟩; obtain ⟨osr, dr, rfl⟩ := hbr.more)
    exact bodyPost_ret (v := .tuple #[NV 0 0, .bool false]) (by simp [results, Tryd.results36, go_sem]; done) rfl ⟨rfl, by repeat (first | with_reducible exact Ext.refl _ | with_reducible apply Ext.drew | with_reducible apply Ext.alloc | with_reducible apply Ext.more_)⟩
set_option maxRecDepth 100000 in
set_option maxHeartbeats 4000000 in
theorem add_yes (ma ea mb eb : Int) (w : World) (htab : Tab w) (h1 : Rt ma ea) (h2 : Rt mb eb) :
    Calls Tryd.prog 36 #[NV ma ea, NV mb eb] w fun e w' => e = .returned (rnV (rndI (sumI ma ea mb eb) (min ea eb))) ∧ Ext w w' := by
  obtain ⟨b1, b2, b3⟩ := Rt_bd h1
  obtain ⟨b4, b5, b6⟩ := Rt_bd h2
  have hma : I64 ma := by unfold I64; omega
  have hmb : I64 mb := by unfold I64; omega
  have r1 := rtB_yes h1
  have r2 := rtB_yes h2
  have hT15 : T 15 = 1000000000000000 := by decide
  have n1 : nd ma.natAbs ≤ 15 := (nd_le_iff _ _).2 (by omega)
  have n2 : nd mb.natAbs ≤ 15 := (nd_le_iff _ _).2 (by omega)
  have hsp1 := fun W hW => spread_any ma ea (min ea eb) (ea - min ea eb).toNat W hW hma (by omega) (by omega)
  have hsp2 := fun W hW => spread_any mb eb (min ea eb) (eb - min ea eb).toNat W hW hmb (by omega) (by omega)
  have hlx : (sprd ma (ea - min ea eb).toNat).length ≤ 200 := by unfold sprd; rw [List.length_append, dig0_length, List.length_replicate]; omega
  have hly : (sprd mb (eb - min ea eb).toNat).length ≤ 200 := by unfold sprd; rw [List.length_append, dig0_length, List.length_replicate]; omega
  have hax := sprd_all ma (ea - min ea eb).toNat
  have hay := sprd_all mb (eb - min ea eb).toNat
  have hsum : sumI ma ea mb eb = sg (decide (ma < 0)) (val (sprd ma (ea - min ea eb).toNat)) + sg (decide (mb < 0)) (val (sprd mb (eb - min ea eb).toNat)) := by
    rw [sprd_val, sprd_val, sg_mul_nat, sg_mul_nat, sg_nat, sg_nat]; rfl
  rw [hsum]
  generalize sprd ma (ea - min ea eb).toNat = X at *
  generalize sprd mb (eb - min ea eb).toNat = Y at *
  have hlen := both_length (na := decide (ma < 0)) (nb := decide (mb < 0)) (n := max X.length Y.length + 1) (X := X) (Y := Y) (by omega) (by omega)
  have hok := both_ok (na := decide (ma < 0)) (nb := decide (mb < 0)) (n := max X.length Y.length + 1) hax hay
  have hval := both_val (na := decide (ma < 0)) (nb := decide (mb < 0)) (n := max X.length Y.length + 1) (X := X) (Y := Y) (by omega) (by omega)
  have hlt := both_lt (na := decide (ma < 0)) (nb := decide (mb < 0)) hax hay rfl
  rw [← hval]
  generalize hRR : rndI (valI (both (decide (ma < 0)) (decide (mb < 0)) (max X.length Y.length + 1) X Y)) (min ea eb) = R
  have HRR := Lib.hid hRR
  have HLEN := Lib.hid hlen
  have HOK := Lib.hid hok
  have HLT := Lib.hid hlt
  have HT := Lib.hid htab
  have HAX := Lib.hid hax
  have HAY := Lib.hid hay
  clear h1 h2 hRR hlen hok hlt hval hsum htab hax hay n1 n2 hT15
  go_enter Tryd.func36, Tryd.ntmps36
  go_wp2_with (go_at_call 17; (with_reducible refine (right_rt _ _ _ (by assumption)).mono ?_); rintro e w' ⟨rfl, hbr⟩; obtain ⟨osr, dr, rfl⟩ := hbr.more)
  refine wp_plan (S := Ext _) [(0, 0), (1, 0), (3, 0), (4, 0), (2, 1), (5, 1), (6, 0), (7, 0)] [] (by kernel_rfl) (by kernel_rfl) (by kernel_rfl) (fun _ _ d _ _ h => by cases d <;> exact h) (Ext.drew (Ext.refl _)) ?_
  (refine wpPl_read (v := ?_) rfl ?_ (fun w1 h1 => ?_) ?_; rotate_left 1; rfl; (obtain ⟨os1, d1, rfl⟩ := h1.more; go_simp; first | done | rfl))
  try simp only [Act.put, List.setIfInBounds_toArray, List.set_cons_zero, List.set_cons_succ]
  (refine wpPl_read (v := ?_) rfl ?_ (fun w1 h1 => ?_) ?_; rotate_left 1; rfl; (obtain ⟨os1, d1, rfl⟩ := h1.more; go_simp; first | done | rfl))
  try simp only [Act.put, List.setIfInBounds_toArray, List.set_cons_zero, List.set_cons_succ]
  (refine wpPl_read (v := ?_) rfl ?_ (fun w1 h1 => ?_) ?_; rotate_left 1; rfl; (obtain ⟨os1, d1, rfl⟩ := h1.more; go_simp; first | done | rfl))
  try simp only [Act.put, List.setIfInBounds_toArray, List.set_cons_zero, List.set_cons_succ]
  (refine wpPl_read (v := ?_) rfl ?_ (fun w1 h1 => ?_) ?_; rotate_left 1; rfl; (obtain ⟨os1, d1, rfl⟩ := h1.more; go_simp; first | done | rfl))
  try simp only [Act.put, List.setIfInBounds_toArray, List.set_cons_zero, List.set_cons_succ]
  (refine wpPl_eff rfl ?_ (fun K hK => ?_); rfl; go_simp; (go_at_call 66; (with_reducible refine (hsp1 _ (HT.out.ext (by repeat (first | with_reducible exact Ext.refl _ | with_reducible apply Ext.drew | with_reducible apply Ext.alloc | with_reducible apply Ext.more_)))).mono ?_); rintro e w' ⟨v1, rfl, ho1, hx1⟩; obtain ⟨os1, d1, rfl⟩ := hx1.more; obtain ⟨A1, p1, rfl, hg1, _⟩ := Dg.of_own (l := X) (k := .u8) ho1; clear ho1); refine hK _ _ ?_ ?_; (repeat (first | with_reducible exact Ext.refl _ | with_reducible exact ext_d _ _ _ _ | with_reducible exact ext_app _ _ _ _ _ | with_reducible exact ext_app2 _ _ _ _ _ _ | with_reducible exact ext_app3 _ _ _ _ _ _ _ | with_reducible exact ext_app4 _ _ _ _ _ _ _ _ | with_reducible exact ext_app5 _ _ _ _ _ _ _ _ _ | ((with_reducible refine ext_suffix ⟨_, ?_⟩); (try simp only [Array.append_assoc]); rfl) | with_reducible apply Ext.drew | with_reducible apply Ext.alloc | with_reducible apply Ext.more_ | apply Ext.drew | apply Ext.alloc | apply Ext.more_)))
  try simp only [Act.put, List.setIfInBounds_toArray, List.set_cons_zero, List.set_cons_succ]
  (refine wpPl_eff rfl ?_ (fun K hK => ?_); rfl; go_simp; (go_at_call 66; (with_reducible refine (hsp2 _ (HT.out.ext (by repeat (first | with_reducible exact Ext.refl _ | with_reducible apply Ext.drew | with_reducible apply Ext.alloc | with_reducible apply Ext.more_)))).mono ?_); rintro e w' ⟨v2, rfl, ho2, hx2⟩; obtain ⟨os2, d2, rfl⟩ := hx2.more; obtain ⟨A2, p2, rfl, hg2, _⟩ := Dg.of_own (l := Y) (k := .u8) ho2; clear ho2); refine hK _ _ ?_ ?_; (repeat (first | with_reducible exact Ext.refl _ | with_reducible exact ext_d _ _ _ _ | with_reducible exact ext_app _ _ _ _ _ | with_reducible exact ext_app2 _ _ _ _ _ _ | with_reducible exact ext_app3 _ _ _ _ _ _ _ | with_reducible exact ext_app4 _ _ _ _ _ _ _ _ | with_reducible exact ext_app5 _ _ _ _ _ _ _ _ _ | ((with_reducible refine ext_suffix ⟨_, ?_⟩); (try simp only [Array.append_assoc]); rfl) | with_reducible apply Ext.drew | with_reducible apply Ext.alloc | with_reducible apply Ext.more_ | apply Ext.drew | apply Ext.alloc | apply Ext.more_)))
  try simp only [Act.put, List.setIfInBounds_toArray, List.set_cons_zero, List.set_cons_succ]
  (refine wpPl_read (v := ?_) rfl ?_ (fun w1 h1 => ?_) ?_; rotate_left 1; rfl; (obtain ⟨os1, d1, rfl⟩ := h1.more; go_simp; first | done | rfl))
  try simp only [Act.put, List.setIfInBounds_toArray, List.set_cons_zero, List.set_cons_succ]
  (refine wpPl_read (v := ?_) rfl ?_ (fun w1 h1 => ?_) ?_; rotate_left 1; rfl; (obtain ⟨os1, d1, rfl⟩ := h1.more; go_simp; first | done | rfl))
  try simp only [Act.put, List.setIfInBounds_toArray, List.set_cons_zero, List.set_cons_succ]
  refine wpPl_nil ?_
  go_upto_region 5 with fail
  refine wp_world fun W hW => ?_
  have c0 : W.cell? ⟨w.heap.size, 0, none⟩ = some (.int .i64 ma) := by rw [hW]; go_simp
  have c2 : W.cell? ⟨w.heap.size + 1, 0, none⟩ = some (.int .i64 mb) := by rw [hW]; go_simp
  have c4 : W.cell? ⟨w.heap.size + 1 + 1, 0, none⟩ = some (.int .i64 0) := by rw [hW]; go_simp
  have c5 : W.cell? ⟨w.heap.size + 1 + 1, 1, none⟩ = some (.int .i64 0) := by rw [hW]; go_simp
  have f4 : W.frozen? ⟨w.heap.size + 1 + 1, 0, none⟩ = false := by rw [hW]; go_simp
  have f5 : W.frozen? ⟨w.heap.size + 1 + 1, 1, none⟩ = false := by rw [hW]; go_simp
  have hz : w.heap.size + 1 + 1 < W.heap.size := by rw [hW]; simp; try omega
  have hz1 : w.heap.size + 1 < W.heap.size := by omega
  have hz0 : w.heap.size < W.heap.size := by omega
  have hxW : Ext w W := by rw [hW]; exact by repeat (first | with_reducible exact Ext.refl _ | with_reducible apply Ext.drew | with_reducible apply Ext.alloc | with_reducible apply Ext.more_)
  have HRX : Hid (Rd 0 W A1 (b8 X) ∧ ∀ p, A1 = some p → X ≠ [] → p.block < W.heap.size) := by
    have h3 : Rd 0 W A1 (b8 X) := by rw [hW]; exact Rd.ext (hg1.rd.mono (Nat.zero_le _)) (by (try simp only [more_more, more_drew, drew_more, Array.append_assoc]); repeat (first | with_reducible exact Ext.refl _ | with_reducible exact ext_d _ _ _ _ | with_reducible exact ext_app _ _ _ _ _ | with_reducible exact ext_app2 _ _ _ _ _ _ | with_reducible exact ext_app3 _ _ _ _ _ _ _ | ((with_reducible refine ext_suffix ⟨_, ?_⟩); (try simp only [Array.append_assoc]); rfl) | with_reducible apply Ext.drew | with_reducible apply Ext.alloc | with_reducible apply Ext.more_))
    refine ⟨h3, fun p hp hne => ?_⟩
    obtain ⟨x, X', rfl⟩ := List.exists_cons_of_ne_nil hne
    obtain ⟨b', o', hA, _, hc⟩ := h3 0 _ rfl
    rw [hp] at hA
    obtain rfl : p = ⟨b', o', none⟩ := Option.some.inj hA
    exact lt_of_cell hc
  have HRY : Hid (Rd 0 W A2 (b8 Y) ∧ ∀ p, A2 = some p → Y ≠ [] → p.block < W.heap.size) := by
    have h3 : Rd 0 W A2 (b8 Y) := by rw [hW]; exact Rd.ext (hg2.rd.mono (Nat.zero_le _)) (by (try simp only [more_more, more_drew, drew_more, Array.append_assoc]); repeat (first | with_reducible exact Ext.refl _ | with_reducible exact ext_d _ _ _ _ | with_reducible exact ext_app _ _ _ _ _ | with_reducible exact ext_app2 _ _ _ _ _ _ | with_reducible exact ext_app3 _ _ _ _ _ _ _ | ((with_reducible refine ext_suffix ⟨_, ?_⟩); (try simp only [Array.append_assoc]); rfl) | with_reducible apply Ext.drew | with_reducible apply Ext.alloc | with_reducible apply Ext.more_))
    refine ⟨h3, fun p hp hne => ?_⟩
    obtain ⟨x, X', rfl⟩ := List.exists_cons_of_ne_nil hne
    obtain ⟨b', o', hA, _, hc⟩ := h3 0 _ rfl
    rw [hp] at hA
    obtain rfl : p = ⟨b', o', none⟩ := Option.some.inj hA
    exact lt_of_cell hc
  clear hW hg1 hg2 hx1 hx2 hsp1 hsp2
  have hmk := make_int (max X.length Y.length + 1) (by omega)
  rw [show (((max X.length Y.length + 1 : Nat)) : Int) = max (X.length : Int) (Y.length : Int) + 1 by omega] at hmk
  obtain ⟨n, hn⟩ : ∃ n, n = max X.length Y.length + 1 := ⟨_, rfl⟩
  have hnb : n ≤ 1000 := by omega
  have hnx : X.length ≤ n := by omega
  have hny : Y.length ≤ n := by omega
  rw [← hn] at hmk HRR HLEN HOK HLT
  have HI0 : Hid (IRow (W.alloc (.cells (madeCells #[.int .i64 0] n) 3)) W.heap.size (List.replicate n 0)) := by
    show _ = _
    have hC : madeCells #[.int .i64 0] n = ((List.replicate n (0 : Int)).map (Value.int .i64)).toArray := by
      apply Array.ext'
      rw [toList_madeCells_one]
      simp
    rw [hC]
    exact Array.getElem?_push_size
  have hga1 := fun W' (hx : Ext W W') (hi : IRow W' W.heap.size (List.replicate n 0)) => gather_any W.heap.size n (List.replicate n 0) A1 p1 X (decide (ma < 0)) W' (by simp) hi (HRX.out.1.ext hx) (fun p hp h0 => by have := HRX.out.2 p hp h0; omega) hnx (by omega) HAX.out (fun x hx => by rw [List.eq_of_mem_replicate hx]; omega)
  have hga2 := fun W' (hx : Ext W W') (hi : IRow W' W.heap.size (List.zipWith (· + ·) (List.replicate n 0) (pad (decide (ma < 0)) n X.length X))) => gather_any W.heap.size n _ A2 p2 Y (decide (mb < 0)) W' (by rw [List.length_zipWith, pad_length hnx (Nat.le_refl _), List.length_replicate]; omega) hi (HRY.out.1.ext hx) (fun p hp h0 => by have := HRY.out.2 p hp h0; omega) hny (by omega) HAY.out (fun x hx => by
    obtain ⟨u, hu, v, hv, rfl⟩ := mem_zip hx
    rw [List.eq_of_mem_replicate hu]
    have := pad_all HAX.out v hv
    omega)
  have hse := fun W' (hi : IRow W' W.heap.size (both (decide (ma < 0)) (decide (mb < 0)) n X Y)) => settle_any W.heap.size n _ W' HLEN.out hi HOK.out (by omega) HLT.out
  have hx0 : Ext W (W.alloc (.cells (madeCells #[.int .i64 0] n) 3)) := (Ext.refl _).alloc _
  clear hn
  go_upto_region 7 with (go_at_call 67; (with_reducible refine (hga1 _ hx0 HI0.out).mono ?_); rintro e w1 ⟨rfl, hi1, ho1⟩; have hx1 := ho1.ext hx0 (Nat.le_refl _))
  have c2' := hx1.cell_some c2
  go_upto_region 8 with (go_at_call 67; (with_reducible refine (hga2 _ hx1 hi1).mono ?_); rintro e w2 ⟨rfl, hi2, ho2⟩; have hx2 := ho2.ext hx1 (Nat.le_refl _))
  have hse2 := hse w2 hi2
  clear hse hga1 hga2 hi1 hi2 HLEN HOK HLT HRX HRY HI0 hmk ho1 ho2 c2'
  generalize valI (both (decide (ma < 0)) (decide (mb < 0)) n X Y) = V at *
  go_upto_region 9 with (go_at_call 68; (with_reducible refine hse2.mono ?_); rintro e w3 ⟨rfl, ⟨D, hdg, hdl, hda, hdv⟩, hx3⟩)
  have hrd := round_any w2.heap.size (decide (V < 0)) (some ⟨w2.heap.size, 0, none⟩) n D (min ea eb) w3 hdg hda (by omega) hx3.size (by omega)
  rw [hdl, hdv, show rnd (decide (V < 0)) V.natAbs false (min ea eb) = R from HRR.out] at hrd
  clear hdg hda hdv hdl HRR hse2
  go_wp2_with (go_at_call 47; (with_reducible refine hrd.mono ?_); rintro e w4 ⟨rfl, hb4⟩; have hx4 : Ext W w4 := (hx2.trans hx3).trans_below hb4 hx2.size; obtain ⟨os4, d4, rfl⟩ := hx4.more)
  exact bodyPost_ret (v := rnV R) (by simp [results, Tryd.results36, go_sem, c4, c5, hz]; done) rfl ⟨rfl, ((hxW.set _ (by show w.heap.size ≤ w.heap.size + 1 + 1; omega)).set _ (by show w.heap.size ≤ w.heap.size + 1 + 1; omega)).more_ _ _⟩
theorem add_any (ma ea mb eb : Int) (w : World) (htab : Tab w) (hma : I64 ma) (hmb : I64 mb) :
    Calls Tryd.prog 36 #[NV ma ea, NV mb eb] w fun e w' => e = .returned (rnV (addS ma ea mb eb)) ∧ Ext w w' := by
  unfold addS
  split
  · rename_i h; exact add_yes ma ea mb eb w htab h.1 h.2
  · rename_i h; exact add_no ma ea mb eb w hma hmb h
set_option maxRecDepth 100000 in
set_option maxHeartbeats 2000000 in
theorem sub_any (ma ea mb eb : Int) (w : World) (htab : Tab w) (hma : I64 ma) (hmb : I64 mb) :
    Calls Tryd.prog 38 #[NV ma ea, NV mb eb] w fun e w' => e = .returned (rnV (subS ma ea mb eb)) ∧ Ext w w' := by
  by_cases h1 : Rt ma ea
  · have r1 := rtB_yes h1
    by_cases h2 : Rt mb eb
    · have r2 := rtB_yes h2
      have hb := Rt_bd h2
      have hng := fun W => neg_any mb eb W hmb
      rw [(neg_yes h2).1, (neg_yes h2).2] at hng
      have had := fun W hW => add_any ma ea (-mb) eb W hW hma (by unfold I64; omega)
      have hs : addS ma ea (-mb) eb = subS ma ea mb eb := by unfold addS subS; rw [if_pos ⟨h1, Rt_neg h2⟩, if_pos ⟨h1, h2⟩]
      rw [hs] at had
      generalize subS ma ea mb eb = R at *
      have HT := Lib.hid htab
      clear h1 h2 hs htab
      go_enter Tryd.func38, Tryd.ntmps38
      go_wp2_with (go_at_call 17; (with_reducible refine (right_rt _ _ _ (by assumption)).mono ?_); rintro e w' ⟨rfl, hbr⟩; obtain ⟨osr, dr, rfl⟩ := hbr.more)
      refine wp_plan (S := Ext _) [(0, 0), (1, 0), (2, 1), (3, 1), (4, 0), (5, 0), (6, 2), (7, 2)] [6, 7] (by kernel_rfl) (by kernel_rfl) (by kernel_rfl) (fun _ _ d _ _ h => by cases d <;> exact h) (Ext.drew (Ext.refl _)) ?_
      (refine wpPl_read (v := ?_) rfl ?_ (fun w1 h1 => ?_) ?_; rotate_left 1; rfl; (obtain ⟨os1, d1, rfl⟩ := h1.more; go_simp; first | done | rfl))
      try simp only [Act.put, List.setIfInBounds_toArray, List.set_cons_zero, List.set_cons_succ]
      (refine wpPl_read (v := ?_) rfl ?_ (fun w1 h1 => ?_) ?_; rotate_left 1; rfl; (obtain ⟨os1, d1, rfl⟩ := h1.more; go_simp; first | done | rfl))
      try simp only [Act.put, List.setIfInBounds_toArray, List.set_cons_zero, List.set_cons_succ]
      (refine wpPl_eff rfl ?_ (fun K hK => ?_); rfl; go_simp; (go_at_call 40; (with_reducible refine (hng _).mono ?_); rintro e w' ⟨rfl, hx⟩; obtain ⟨os4, d4, rfl⟩ := hx.more); refine hK _ _ ?_ ?_; (repeat (first | with_reducible exact Ext.refl _ | with_reducible exact ext_d _ _ _ _ | with_reducible exact ext_app _ _ _ _ _ | with_reducible exact ext_app2 _ _ _ _ _ _ | with_reducible exact ext_app3 _ _ _ _ _ _ _ | with_reducible exact ext_app4 _ _ _ _ _ _ _ _ | with_reducible exact ext_app5 _ _ _ _ _ _ _ _ _ | ((with_reducible refine ext_suffix ⟨_, ?_⟩); (try simp only [Array.append_assoc]); rfl) | with_reducible apply Ext.drew | with_reducible apply Ext.alloc | with_reducible apply Ext.more_ | apply Ext.drew | apply Ext.alloc | apply Ext.more_)))
      try simp only [Act.put, List.setIfInBounds_toArray, List.set_cons_zero, List.set_cons_succ]
      (refine wpPl_eff rfl ?_ (fun K hK => ?_); rfl; go_simp; (go_at_call 36; (with_reducible refine (had _ (HT.out.ext (by repeat (first | with_reducible exact Ext.refl _ | with_reducible apply Ext.drew | with_reducible apply Ext.alloc | with_reducible apply Ext.more_)))).mono ?_); rintro e w' ⟨rfl, hx⟩; obtain ⟨os5, d5, rfl⟩ := hx.more); refine hK _ _ ?_ ?_; (repeat (first | with_reducible exact Ext.refl _ | with_reducible exact ext_d _ _ _ _ | with_reducible exact ext_app _ _ _ _ _ | with_reducible exact ext_app2 _ _ _ _ _ _ | with_reducible exact ext_app3 _ _ _ _ _ _ _ | with_reducible exact ext_app4 _ _ _ _ _ _ _ _ | with_reducible exact ext_app5 _ _ _ _ _ _ _ _ _ | ((with_reducible refine ext_suffix ⟨_, ?_⟩); (try simp only [Array.append_assoc]); rfl) | with_reducible apply Ext.drew | with_reducible apply Ext.alloc | with_reducible apply Ext.more_ | apply Ext.drew | apply Ext.alloc | apply Ext.more_)))
      try simp only [Act.put, List.setIfInBounds_toArray, List.set_cons_zero, List.set_cons_succ]
      (refine wpPl_read (v := ?_) rfl ?_ (fun w1 h1 => ?_) ?_; rotate_left 1; rfl; (obtain ⟨os1, d1, rfl⟩ := h1.more; go_simp; first | done | rfl))
      try simp only [Act.put, List.setIfInBounds_toArray, List.set_cons_zero, List.set_cons_succ]
      (refine wpPl_read (v := ?_) rfl ?_ (fun w1 h1 => ?_) ?_; rotate_left 1; rfl; (obtain ⟨os1, d1, rfl⟩ := h1.more; go_simp; first | done | rfl))
      try simp only [Act.put, List.setIfInBounds_toArray, List.set_cons_zero, List.set_cons_succ]
      (refine wpPl_tail rfl ?_ (fun K hK => ?_); rfl; go_simp; refine hK _ _ ?_)
      try simp only [Act.put]
      (refine wpPl_tail rfl ?_ (fun K hK => ?_); rfl; go_simp; refine hK _ _ ?_)
      try simp only [Act.put, List.setIfInBounds_toArray, List.set_cons_zero, List.set_cons_succ]
      refine wpPl_nil ?_
      go_wp2
      exact bodyPost_ret (v := rnV R) (by simp [results, Tryd.results38, go_sem]; done) rfl ⟨rfl, by repeat (first | with_reducible exact Ext.refl _ | with_reducible apply Ext.drew | with_reducible apply Ext.alloc | with_reducible apply Ext.more_)⟩
    · have r2 := rtB_no h2
      have hs : subS ma ea mb eb = none := by unfold subS; rw [if_neg (fun h => h2 h.2)]
      rw [hs]
      clear h1 h2 hs
      go_enter Tryd.func38, Tryd.ntmps38
      go_wp2_with (go_at_call 17; (with_reducible refine (right_rt _ _ _ (by assumption)).mono ?_); rintro e w' ⟨rfl, hbr⟩; obtain ⟨osr, dr, rfl⟩ := hbr.more)
      exact bodyPost_ret (v := .tuple #[NV 0 0, .bool false]) (by simp [results, Tryd.results38, go_sem]; done) rfl ⟨rfl, by repeat (first | with_reducible exact Ext.refl _ | with_reducible apply Ext.drew | with_reducible apply Ext.alloc | with_reducible apply Ext.more_)⟩
  · have r1 := rtB_no h1
    have hs : subS ma ea mb eb = none := by unfold subS; rw [if_neg (fun h => h1 h.1)]
    rw [hs]
    clear h1 hs
    go_enter Tryd.func38, Tryd.ntmps38
    go_wp2_with (go_at_call 17; (with_reducible refine (right_rt _ _ _ (by assumption)).mono ?_); rintro e w' ⟨rfl, hbr⟩; obtain ⟨osr, dr, rfl⟩ := hbr.more)
    exact bodyPost_ret (v := .tuple #[NV 0 0, .bool false]) (by simp [results, Tryd.results38, go_sem]; done) rfl ⟨rfl, by repeat (first | with_reducible exact Ext.refl _ | with_reducible apply Ext.drew | with_reducible apply Ext.alloc | with_reducible apply Ext.more_)⟩
end Go.Proofs.YtihfiegopnjeiaaDoor
