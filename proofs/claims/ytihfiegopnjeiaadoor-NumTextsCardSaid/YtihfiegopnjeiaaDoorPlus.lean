/- counterpaneref01.Plus. -/
import Derived.Test.YtihfiegopnjeiaaDoorLess
import Derived.Test.YtihfiegopnjeiaaDoorSum
namespace Go.Proofs.YtihfiegopnjeiaaDoor
set_option linter.unusedSimpArgs false
set_option linter.unusedVariables false
open Go.RowKit NM

theorem made_dg {k : IntKind} {ty : TypeId} {base n : Nat} {w : World} (L : Nat) (hn : n = w.heap.size) (hb : base ≤ n) : Dg k ty base (w.alloc (.cells (madeCells #[.int k 0] L) ty)) (some ⟨n, 0, none⟩) L (List.replicate L 0) := by
  have hC : madeCells #[.int k 0] L = ((List.replicate L 0).map fun d : Nat => Value.int k (d : Int)).toArray := by
    apply Array.ext'
    rw [toList_madeCells_one]
    simp
  have := Dg.new (k := k) (ty := ty) (base := base) (List.replicate L 0) hC hn hb
  rw [List.length_replicate] at this
  exact this
theorem Rd.set_low {base : Nat} {w : World} {A : Option Addr} {cs : List Value} {p : Addr} (v : Value) (h : Rd base w A cs) (hp : p.block < base) : Rd base (w.setCell p v) A cs :=
  h.blocks fun b hb => RowKit.Below.heap_setCell _ _ _ _ (by omega)
/-- An exact value, as it is handed back. -/
def DecOut (w : World) (neg : Bool) (L N : Nat) (ex : Int) (e : Ending) (w' : World) : Prop := ∃ A c X, e = .returned (DecV neg A L c ex) ∧ Rd w.heap.size w' A (i6 X) ∧ X.length = L ∧ AllD X ∧ val X = N ∧ L ≤ c
theorem make_int (n : Nat) (hn : n ≤ 100000) (W : World) : (Instr.makeSlice 43 (.int .i64 (n : Int)) (.int .i64 (n : Int))).run Tryd.prog W = .ok (.slice (some ⟨W.heap.size, 0, none⟩) n n) (W.alloc (.cells (madeCells #[.int .i64 0] n) 3)) := by
  obtain ⟨i0, hi, hz0, hz1, hz2⟩ := info_parts info_int_
  have := run_make (P := Tryd.prog) W 43 3 i0 _ Tryd.underlying43 hi hz0 .i64 .i64 (n : Int) (n : Int) (by omega) (by omega) (by rw [hz2]; omega) (by omega)
  simpa [hz1, Value.cells] using this
/-- What Plus keeps in its loops. -/
structure PlusSt (W : World) (L j : Nat) (S : List Nat) (wr : World) : Prop where
  out : Dg .i64 3 W.heap.size wr (some ⟨W.heap.size, 0, none⟩) (L + 1) (List.replicate (j + 1) 0 ++ S)
  len : S.length = L - j
  all : AllD S
  ext : Ext W wr
theorem PlusSt.step {W wr : World} {L j d : Nat} {S : List Nat} (h : PlusSt W L (j + 1) S wr) (hd : d < 10) (hj : j + 1 ≤ L) : PlusSt W L j (d :: S) (wr.setCell ⟨W.heap.size, j + 1, none⟩ (.int .i64 (d : Int))) := by
  refine ⟨?_, by simp [h.len]; omega, AllD.cons hd h.all, h.ext.set _ (Nat.le_refl _)⟩
  have := h.out.set (i := j + 1) (d := d) (by simp; omega)
  rw [Nat.zero_add, List.set_append_left _ _ (by simp)] at this
  have he : (List.replicate (j + 1 + 1) 0).set (j + 1) d = List.replicate (j + 1) 0 ++ [d] := by
    rw [List.replicate_succ', List.set_append_right _ _ (by simp)]; simp
  rw [he, List.append_assoc, List.singleton_append] at this
  exact this
theorem PlusSt.at {W wr : World} {L j : Nat} {S : List Nat} (h : PlusSt W L j S wr) : wr.cell? ⟨W.heap.size, j, none⟩ = some (.int .i64 0) ∧ wr.frozen? ⟨W.heap.size, j, none⟩ = false := by
  obtain ⟨b, off, h1, _, h2, h3⟩ := h.out.at (i := j) (d := 0) (by rw [List.getElem?_append_left (by simp)]; simp [List.getElem?_replicate])
  simp only [Option.some.injEq, Addr.mk.injEq, and_true] at h1
  obtain ⟨rfl, rfl⟩ := h1
  rw [Nat.zero_add] at h2 h3
  exact ⟨h2, h3⟩
theorem PlusSt.drew {W wr : World} {L j : Nat} {S : List Nat} (h : PlusSt W L j S wr) : PlusSt W L j S wr.drew := ⟨h.out, h.len, h.all, h.ext.drew⟩
theorem PlusSt.ext_ {W wr wr' : World} {L j : Nat} {S : List Nat} (h : PlusSt W L j S wr) (hx : Ext wr wr') : PlusSt W L j S wr' := ⟨h.out.ext hx, h.len, h.all, h.ext.trans hx⟩
theorem PlusSt.last {W wr : World} {L : Nat} {S : List Nat} (h : PlusSt W L 0 S wr) (d : Nat) : Dg .i64 3 W.heap.size (wr.setCell ⟨W.heap.size, 0, none⟩ (.int .i64 (d : Int))) (some ⟨W.heap.size, 0, none⟩) (L + 1) (d :: S) := by
  have := h.out.set (i := 0) (d := d) (by simp)
  simpa using this
set_option maxRecDepth 100000 in
set_option maxHeartbeats 2000000 in
theorem plus_same (neg : Bool) (A B : Option Addr) (ca cb : Nat) (la lb : List Nat) (ea eb : Int) (e : Int) (ka kb L : Nat) (w : World) (ha : Rd 0 w A (i6 la)) (hb : Rd 0 w B (i6 lb)) (hla : la.length ≤ 1000) (hlb : lb.length ≤ 1000)
    (hka : ea = e + ka) (hkb : eb = e + kb) (hk0 : ka = 0 ∨ kb = 0) (hkk : ka ≤ 10000 ∧ kb ≤ 10000) (he : -1000000 ≤ e ∧ e ≤ 1000000) (hda : AllD la) (hdb : AllD lb) (hL : max (la.length + ka) (lb.length + kb) = L) :
    Calls Tryd.prog 44 #[DecV neg A la.length ca ea, DecV neg B lb.length cb eb] w fun r w' => DecOut w neg (L + 1) (val la * T ka + val lb * T kb) e r w' ∧ Ext w w' := by
  have hlv := fun W h1 h2 => level_any neg neg A B ca cb la lb ea eb e ka kb W h1 h2 hla hlb hka hkb hk0 hkk he hda hdb
  rw [hL] at hlv
  have hLb : L ≤ 11000 := by omega
  have hNa : val la * T ka < T L := by
    rw [← val_zeros]
    exact Nat.lt_of_lt_of_le (val_lt (hda.append (AllD.rep _ _ (by omega)))) (T_mono (by simp; omega))
  have hNb : val lb * T kb < T L := by
    rw [← val_zeros]
    exact Nat.lt_of_lt_of_le (val_lt (hdb.append (AllD.rep _ _ (by omega)))) (T_mono (by simp; omega))
  generalize val la * T ka = Na at *
  generalize val lb * T kb = Nb at *
  have HA := Lib.hid ha
  have HB := Lib.hid hb
  have HNa := Lib.hid hNa
  have HNb := Lib.hid hNb
  clear ha hb hka hkb hk0 hkk hL hNa hNb
  have hmk := make_int (L + 1) (by omega)
  rw [show (((L + 1 : Nat)) : Int) = (L : Int) + 1 by omega] at hmk
  go_enter Tryd.func44, Tryd.ntmps44
  go_upto_region 2 with (go_at_call 70; (with_reducible refine (hlv _ (HA.out.ext (by repeat (first | exact Ext.refl _ | apply Ext.drew | apply Ext.alloc | apply Ext.more_))) (HB.out.ext (by repeat (first | exact Ext.refl _ | apply Ext.drew | apply Ext.alloc | apply Ext.more_)))).mono ?_); rintro r w' ⟨⟨va, vb, rfl, hva, hvb⟩, hx⟩; obtain ⟨os, d, rfl⟩ := hx.more; obtain ⟨Ax, cx, X, rfl, hrx, hnx, hax, hvx, hcx⟩ := hva; obtain ⟨Ay, cy, Y, rfl, hry, hny, hay, hvy, hcy⟩ := hvb)
  refine wp_world fun W hW => ?_
  have c0 : W.cell? ⟨w.heap.size, 0, none⟩ = some (.bool neg) := by rw [hW]; go_simp
  have c1 : W.cell? ⟨w.heap.size + 1, 0, none⟩ = some (.bool neg) := by rw [hW]; go_simp
  have r0 : W.cell? ⟨w.heap.size + 1 + 1, 0, none⟩ = some (.bool false) := by rw [hW]; go_simp
  have r1 : W.cell? ⟨w.heap.size + 1 + 1, 1, none⟩ = some (.slice none 0 0) := by rw [hW]; go_simp
  have r2 : W.cell? ⟨w.heap.size + 1 + 1, 2, none⟩ = some (.int .i64 0) := by rw [hW]; go_simp
  have q0 : W.frozen? ⟨w.heap.size + 1 + 1, 0, none⟩ = false := by rw [hW]; go_simp
  have q1 : W.frozen? ⟨w.heap.size + 1 + 1, 1, none⟩ = false := by rw [hW]; go_simp
  have q2 : W.frozen? ⟨w.heap.size + 1 + 1, 2, none⟩ = false := by rw [hW]; go_simp
  have hz : w.heap.size + 1 + 1 < W.heap.size := by rw [hW]; simp; try omega
  have hz1 : w.heap.size + 1 < W.heap.size := by omega
  have hz0 : w.heap.size < W.heap.size := by omega
  have hxW : Ext w W := by rw [hW]; exact by repeat (first | exact Ext.refl _ | apply Ext.drew | apply Ext.alloc | apply Ext.more_)
  have HX : Hid (Rd 0 W Ax (i6 X)) := by show Rd _ _ _ _; rw [hW]; exact hrx.mono (Nat.zero_le _)
  have HY : Hid (Rd 0 W Ay (i6 Y)) := by show Rd _ _ _ _; rw [hW]; exact hry.mono (Nat.zero_le _)
  clear hW hrx hry hx
  have HS : Hid (PlusSt W L L [] (W.alloc (.cells (madeCells #[.int .i64 0] (L + 1)) 3))) := ⟨by have := made_dg (k := .i64) (ty := 3) (w := W) (L + 1) rfl (Nat.le_refl _); simpa using this, by simp, AllD.nil, (Ext.refl _).alloc _⟩
  have HNX := Lib.hid hnx
  have HNY := Lib.hid hny
  have HVX := Lib.hid hvx
  have HVY := Lib.hid hvy
  clear hnx hny hvx hvy
  go_wp2
  go_loopw [9, 10] (fun a i wr => ∃ (j c : Nat) (S : List Nat), j ≤ L ∧ c ≤ 1 ∧ i = .int .i64 ((j : Int) - 1) ∧ a = .int .i64 (c : Int) ∧ Hid (PlusSt W L j S wr) ∧ Hid (val (X.drop j) + val (Y.drop j) = c * T S.length + val S)) (fun _ i _ => ((intOf i) + 1).toNat)
  case atStart =>
    exact ⟨L, 0, [], Nat.le_refl _, by omega, by go_num, rfl, HS, by show _ = _; rw [List.drop_eq_nil_of_le (by rw [HNX.out]; exact Nat.le_refl _), List.drop_eq_nil_of_le (by rw [HNY.out]; exact Nat.le_refl _)]; simp [val_nil]⟩
  case round =>
    obtain ⟨j, c, S, hj, hc, rfl, rfl, H, HV⟩ := hrel
    have hxr := H.out.ext
    have hsz := hxr.size
    cases j with
    | zero =>
      obtain ⟨o0, o1⟩ := H.out.at
      have c0' := hxr.cell_some c0
      have r0' := hxr.cell_some r0
      have r1' := hxr.cell_some r1
      have r2' := hxr.cell_some r2
      have q0' := (hxr.frozen (p := ⟨w.heap.size + 1 + 1, 0, none⟩) (by show w.heap.size + 1 + 1 < _; omega)).trans q0
      have q1' := (hxr.frozen (p := ⟨w.heap.size + 1 + 1, 1, none⟩) (by show w.heap.size + 1 + 1 < _; omega)).trans q1
      have q2' := (hxr.frozen (p := ⟨w.heap.size + 1 + 1, 2, none⟩) (by show w.heap.size + 1 + 1 < _; omega)).trans q2
      have HLAST := Lib.hid (H.out.last c)
      go_wp2
      refine bodyPost_ret (v := DecV neg (some ⟨W.heap.size, 0, none⟩) (L + 1) (L + 1) e) (by simp [results, Tryd.results44, go_sem, hz, r0', r1', r2']; done) rfl ⟨⟨_, _, c :: S, rfl, ?_, by have := H.out.len; simp; omega, AllD.cons (by omega) H.out.all, ?_, Nat.le_refl _⟩, ?_⟩
      · exact (((HLAST.out.rd.set_low _ hz).set_low _ hz).set_low _ hz).mono (by omega)
      · rw [val_cons]
        have := HV.out
        rw [List.drop_zero, List.drop_zero, HVX.out, HVY.out] at this
        omega
      · exact (((((hxW.trans hxr).set _ (by show w.heap.size ≤ W.heap.size; omega)).set _ (by show w.heap.size ≤ w.heap.size + 1 + 1; omega)).set _ (by show w.heap.size ≤ w.heap.size + 1 + 1; omega)).set _ (by show w.heap.size ≤ w.heap.size + 1 + 1; omega))
    | succ j =>
      have hjL : j < L := by omega
      obtain ⟨x, hxj⟩ : ∃ x, X[j]? = some x := ⟨X[j]'(by have := HNX.out; omega), by rw [List.getElem?_eq_getElem]⟩
      obtain ⟨y, hyj⟩ : ∃ y, Y[j]? = some y := ⟨Y[j]'(by have := HNY.out; omega), by rw [List.getElem?_eq_getElem]⟩
      obtain ⟨ba, oa, rfl, _, hcx'⟩ := Rd.at_ (HX.out.ext hxr) hxj
      obtain ⟨bb, ob, rfl, _, hcy'⟩ := Rd.at_ (HY.out.ext hxr) hyj
      have hba := lt_of_cell hcx'
      have hbb := lt_of_cell hcy'
      simp only at hba hbb
      have hx10 := hax.at hxj
      have hy10 := hay.at hyj
      have HST := Lib.hid (add_step hxj hyj (by rw [HNX.out, HNY.out]) (by rw [H.out.len, HNX.out]) HV.out)
      obtain ⟨o0, o1⟩ := H.out.at
      have t1 : ((x : Int) + (y : Int) + (c : Int)).tmod 10 = (((x + y + c) % 10 : Nat) : Int) := rfl
      have t3 : ((x : Int) + (y : Int) + (c : Int)) % 10 = (((x + y + c) % 10 : Nat) : Int) := rfl
      have t2 : ((x : Int) + (y : Int) + (c : Int)).tdiv 10 = (((x + y + c) / 10 : Nat) : Int) := rfl
      have hd1 : (x + y + c) % 10 < 10 := by omega
      have hd2 : (x + y + c) / 10 ≤ 1 := by omega
      have hji : (((j + 1 : Nat) : Int) - 1) = (j : Int) := by omega
      rw [hji]
      have HSP := Lib.hid (H.out.step hd1 hj)
      clear hxj hyj
      generalize (x + y + c) % 10 = dg at *
      generalize (x + y + c) / 10 = cc at *
      go_wp2
      refine wp_plan (S := Ext _) [(0, 0), (1, 0), (2, 0), (3, 0), (4, 0), (5, 0), (6, 0), (7, 0), (8, 0), (9, 0), (10, 0), (11, 0)] [] (by kernel_rfl) (by kernel_rfl) (by kernel_rfl) (fun _ _ d _ _ h => by cases d <;> exact h) (Ext.drew (Ext.refl _)) ?_
      (refine wpPl_read (v := ?_) rfl ?_ (fun w1 h1 => ?_) ?_; rotate_left 1; rfl; (obtain ⟨os1, d1, rfl⟩ := h1.more; go_simp; first | done | rfl))
      try simp only [Act.put, List.setIfInBounds_toArray, List.set_cons_zero, List.set_cons_succ]
      (refine wpPl_read (v := ?_) rfl ?_ (fun w1 h1 => ?_) ?_; rotate_left 1; rfl; (obtain ⟨os1, d1, rfl⟩ := h1.more; go_simp; first | done | rfl))
      try simp only [Act.put, List.setIfInBounds_toArray, List.set_cons_zero, List.set_cons_succ]
      (refine wpPl_read (v := ?_) rfl ?_ (fun w1 h1 => ?_) ?_; rotate_left 1; rfl; (obtain ⟨os1, d1, rfl⟩ := h1.more; go_simp; first | done | rfl))
      try simp only [Act.put, List.setIfInBounds_toArray, List.set_cons_zero, List.set_cons_succ]
      (refine wpPl_read (v := ?_) rfl ?_ (fun w1 h1 => ?_) ?_; rotate_left 1; rfl; (obtain ⟨os1, d1, rfl⟩ := h1.more; go_simp; first | done | rfl))
      try simp only [Act.put, List.setIfInBounds_toArray, List.set_cons_zero, List.set_cons_succ]
      (refine wpPl_read (v := ?_) rfl ?_ (fun w1 h1 => ?_) ?_; rotate_left 1; rfl; (obtain ⟨os1, d1, rfl⟩ := h1.more; go_simp; first | done | rfl))
      try simp only [Act.put, List.setIfInBounds_toArray, List.set_cons_zero, List.set_cons_succ]
      (refine wpPl_read (v := ?_) rfl ?_ (fun w1 h1 => ?_) ?_; rotate_left 1; rfl; (obtain ⟨os1, d1, rfl⟩ := h1.more; go_simp; first | done | rfl))
      try simp only [Act.put, List.setIfInBounds_toArray, List.set_cons_zero, List.set_cons_succ]
      (refine wpPl_read (v := ?_) rfl ?_ (fun w1 h1 => ?_) ?_; rotate_left 1; rfl; (obtain ⟨os1, d1, rfl⟩ := h1.more; go_simp; first | done | rfl))
      try simp only [Act.put, List.setIfInBounds_toArray, List.set_cons_zero, List.set_cons_succ]
      (refine wpPl_read (v := ?_) rfl ?_ (fun w1 h1 => ?_) ?_; rotate_left 1; rfl; (obtain ⟨os1, d1, rfl⟩ := h1.more; go_simp; first | done | rfl))
      try simp only [Act.put, List.setIfInBounds_toArray, List.set_cons_zero, List.set_cons_succ]
      (refine wpPl_read (v := ?_) rfl ?_ (fun w1 h1 => ?_) ?_; rotate_left 1; rfl; (obtain ⟨os1, d1, rfl⟩ := h1.more; go_simp; first | done | rfl))
      try simp only [Act.put, List.setIfInBounds_toArray, List.set_cons_zero, List.set_cons_succ]
      (refine wpPl_read (v := ?_) rfl ?_ (fun w1 h1 => ?_) ?_; rotate_left 1; rfl; (obtain ⟨os1, d1, rfl⟩ := h1.more; go_simp; first | done | rfl))
      try simp only [Act.put, List.setIfInBounds_toArray, List.set_cons_zero, List.set_cons_succ]
      (refine wpPl_read (v := ?_) rfl ?_ (fun w1 h1 => ?_) ?_; rotate_left 1; rfl; (obtain ⟨os1, d1, rfl⟩ := h1.more; go_simp; first | done | rfl))
      try simp only [Act.put, List.setIfInBounds_toArray, List.set_cons_zero, List.set_cons_succ]
      (refine wpPl_read (v := ?_) rfl ?_ (fun w1 h1 => ?_) ?_; rotate_left 1; rfl; (obtain ⟨os1, d1, rfl⟩ := h1.more; go_simp; first | done | rfl))
      try simp only [Act.put, List.setIfInBounds_toArray, List.set_cons_zero, List.set_cons_succ]
      refine wpPl_nil ?_
      go_wp2
      refine ⟨⟨j, cc, dg :: S, by omega, hd2, by go_num, by rw [t2], ?_, ?_⟩, by simp [intOf]⟩
      · exact HSP.out.drew
      · exact HST
set_option maxRecDepth 100000 in
set_option maxHeartbeats 2000000 in
theorem plus_diff (na nb : Bool) (A B : Option Addr) (ca cb : Nat) (la lb : List Nat) (ea eb : Int) (e : Int) (ka kb L : Nat) (w : World) (ha : Rd 0 w A (i6 la)) (hb : Rd 0 w B (i6 lb)) (hla : la.length ≤ 1000) (hlb : lb.length ≤ 1000)
    (hka : ea = e + ka) (hkb : eb = e + kb) (hk0 : ka = 0 ∨ kb = 0) (hkk : ka ≤ 10000 ∧ kb ≤ 10000) (he : -1000000 ≤ e ∧ e ≤ 1000000) (hda : AllD la) (hdb : AllD lb) (hne : na ≠ nb) (hL : max (la.length + ka) (lb.length + kb) = L) :
    Calls Tryd.prog 44 #[DecV na A la.length ca ea, DecV nb B lb.length cb eb] w fun r w' => DecOut w (if val la * T ka < val lb * T kb then nb else na) (L + 1) (if val la * T ka < val lb * T kb then val lb * T kb - val la * T ka else val la * T ka - val lb * T kb) e r w' ∧ Ext w w' := by
  have hlv := fun W h1 h2 => level_any na nb A B ca cb la lb ea eb e ka kb W h1 h2 hla hlb hka hkb hk0 hkk he hda hdb
  rw [hL] at hlv
  have hLb : L ≤ 11000 := by omega
  generalize val la * T ka = Na at *
  generalize val lb * T kb = Nb at *
  generalize hNG : (if Na < Nb then nb else na) = NG
  generalize hVV : (if Na < Nb then Nb - Na else Na - Nb) = VV
  have HNG := Lib.hid hNG
  have HVV := Lib.hid hVV
  clear hNG hVV
  have HA := Lib.hid ha
  have HB := Lib.hid hb
  clear ha hb hka hkb hk0 hkk hL
  have hmk := make_int (L + 1) (by omega)
  rw [show (((L + 1 : Nat)) : Int) = (L : Int) + 1 by omega] at hmk
  go_enter Tryd.func44, Tryd.ntmps44
  go_upto_region 2 with (go_at_call 70; (with_reducible refine (hlv _ (HA.out.ext (by repeat (first | exact Ext.refl _ | apply Ext.drew | apply Ext.alloc | apply Ext.more_))) (HB.out.ext (by repeat (first | exact Ext.refl _ | apply Ext.drew | apply Ext.alloc | apply Ext.more_)))).mono ?_); rintro r w' ⟨⟨va, vb, rfl, hva, hvb⟩, hx⟩; obtain ⟨os, d, rfl⟩ := hx.more; obtain ⟨Ax, cx, X, rfl, hrx, hnx, hax, hvx, hcx⟩ := hva; obtain ⟨Ay, cy, Y, rfl, hry, hny, hay, hvy, hcy⟩ := hvb)
  refine wp_world fun W hW => ?_
  have c0 : W.cell? ⟨w.heap.size, 0, none⟩ = some (.bool na) := by rw [hW]; go_simp
  have c1 : W.cell? ⟨w.heap.size + 1, 0, none⟩ = some (.bool nb) := by rw [hW]; go_simp
  have r0 : W.cell? ⟨w.heap.size + 1 + 1, 0, none⟩ = some (.bool false) := by rw [hW]; go_simp
  have r1 : W.cell? ⟨w.heap.size + 1 + 1, 1, none⟩ = some (.slice none 0 0) := by rw [hW]; go_simp
  have r2 : W.cell? ⟨w.heap.size + 1 + 1, 2, none⟩ = some (.int .i64 0) := by rw [hW]; go_simp
  have q0 : W.frozen? ⟨w.heap.size + 1 + 1, 0, none⟩ = false := by rw [hW]; go_simp
  have q1 : W.frozen? ⟨w.heap.size + 1 + 1, 1, none⟩ = false := by rw [hW]; go_simp
  have q2 : W.frozen? ⟨w.heap.size + 1 + 1, 2, none⟩ = false := by rw [hW]; go_simp
  have hz : w.heap.size + 1 + 1 < W.heap.size := by rw [hW]; simp; try omega
  have hz1 : w.heap.size + 1 < W.heap.size := by omega
  have hz0 : w.heap.size < W.heap.size := by omega
  have hxW : Ext w W := by rw [hW]; exact by repeat (first | exact Ext.refl _ | apply Ext.drew | apply Ext.alloc | apply Ext.more_)
  have HX : Hid (Rd 0 W Ax (i6 X)) := by show Rd _ _ _ _; rw [hW]; exact hrx.mono (Nat.zero_le _)
  have HY : Hid (Rd 0 W Ay (i6 Y)) := by show Rd _ _ _ _; rw [hW]; exact hry.mono (Nat.zero_le _)
  clear hW hrx hry hx
  have HS : Hid (PlusSt W L L [] (W.alloc (.cells (madeCells #[.int .i64 0] (L + 1)) 3))) := ⟨by have := made_dg (k := .i64) (ty := 3) (w := W) (L + 1) rfl (Nat.le_refl _); simpa using this, by simp, AllD.nil, (Ext.refl _).alloc _⟩
  have HNX := Lib.hid hnx
  have HNY := Lib.hid hny
  have HVX := Lib.hid hvx
  have HVY := Lib.hid hvy
  clear hnx hny hvx hvy
  have hne' : (na == nb) = false := by simpa using hne
  have hls := fun W' (hx' : Ext W W') => less_any Ax Ay cx cy L X Y W' (HX.out.ext hx') (HY.out.ext hx') HNX.out HNY.out hax hay (by omega)
  go_upto_if 70 with (go_at_call 71; (with_reducible refine (hls _ (by repeat (first | exact Ext.refl _ | apply Ext.drew | apply Ext.alloc | apply Ext.more_))).mono ?_); rintro r w' ⟨rfl, hx⟩; obtain ⟨os2, d2, rfl⟩ := hx.more)
  have HS2 := HS.out.ext_ (ext_more _ os2 d2)
  have HS2 := Lib.hid HS2
  refine wp_world fun W2 hW2 => ?_
  rw [← hW2] at HS2
  clear hW2 HS hls hx
  have hx2 := HS2.out.ext
  have hz2 := hx2.size
  have c1' := hx2.cell_some c1
  go_cut [5, 6, 12] (fun s5 s6 s12 wx => ∃ (Ap Aq : Option Addr) (cp cq : Nat) (P Q : List Nat) (n : Bool), s5 = .slice Ap L cp ∧ s6 = .slice Aq L cq ∧ s12 = .bool n ∧ wx = W2 ∧ Hid (Rd 0 W Ap (i6 P)) ∧ Hid (Rd 0 W Aq (i6 Q)) ∧ Hid (P.length = L) ∧ Hid (Q.length = L) ∧ AllD P ∧ AllD Q ∧ L ≤ cp ∧ L ≤ cq ∧ Hid (val Q ≤ val P ∧ n = NG ∧ val P - val Q = VV))
  case first =>
    by_cases hlt : val X < val Y
    · have e1 : decide (val X < val Y) = true := by simp [hlt]
      have hN : Na < Nb := by rw [← HVX.out, ← HVY.out]; exact hlt
      have HN := Lib.hid hN
      have HLT := Lib.hid hlt
      clear hlt hN
      go_wp2
      go_meet
      exact ⟨Ay, Ax, cy, cx, Y, X, nb, rfl, rfl, rfl, rfl, HY, HX, HNY, HNX, hay, hax, hcy, hcx, Nat.le_of_lt HLT.out, by rw [← HNG.out, if_pos HN.out], by rw [← HVV.out, if_pos HN.out, HVX.out, HVY.out]⟩
    · have e1 : decide (val X < val Y) = false := by simp [hlt]
      have hN : ¬ Na < Nb := by rw [← HVX.out, ← HVY.out]; exact hlt
      have HN := Lib.hid hN
      have HLT := Lib.hid hlt
      clear hlt hN
      go_wp2
      go_meet
      exact ⟨Ax, Ay, cx, cy, X, Y, na, rfl, rfl, rfl, rfl, HX, HY, HNX, HNY, hax, hay, hcx, hcy, Nat.le_of_not_lt HLT.out, by rw [← HNG.out, if_neg HN.out], by rw [← HVV.out, if_neg HN.out, HVX.out, HVY.out]⟩
  case rest =>
  clear HX HY HNX HNY HVX HVY hax hay hcx hcy c1'
  obtain ⟨Ap, Aq, cp, cq, X, Y, n, rfl, rfl, rfl, rfl, HX, HY, HNX, HNY, hax, hay, hcx, hcy, HFIN⟩ := hcut
  go_wp2
  go_loopw [13, 14] (fun a i wr => ∃ (j c : Nat) (S : List Nat), j ≤ L ∧ c ≤ 1 ∧ i = .int .i64 ((j : Int) - 1) ∧ a = .int .i64 (c : Int) ∧ Hid (PlusSt W L j S wr) ∧ Hid (val (X.drop j) + c * T S.length = val (Y.drop j) + val S)) (fun _ i _ => ((intOf i) + 1).toNat)
  case atStart =>
    exact ⟨L, 0, [], Nat.le_refl _, by omega, by go_num, rfl, HS2, by show _ = _; rw [List.drop_eq_nil_of_le (by rw [HNX.out]; exact Nat.le_refl _), List.drop_eq_nil_of_le (by rw [HNY.out]; exact Nat.le_refl _)]; simp [val_nil]⟩
  case round =>
    obtain ⟨j, c, S, hj, hc, rfl, rfl, H, HV⟩ := hrel
    have hxr := H.out.ext
    have hsz := hxr.size
    cases j with
    | zero =>
      have r0' := hxr.cell_some r0
      have r1' := hxr.cell_some r1
      have r2' := hxr.cell_some r2
      have q0' := (hxr.frozen (p := ⟨w.heap.size + 1 + 1, 0, none⟩) (by show w.heap.size + 1 + 1 < _; omega)).trans q0
      have q1' := (hxr.frozen (p := ⟨w.heap.size + 1 + 1, 1, none⟩) (by show w.heap.size + 1 + 1 < _; omega)).trans q1
      have q2' := (hxr.frozen (p := ⟨w.heap.size + 1 + 1, 2, none⟩) (by show w.heap.size + 1 + 1 < _; omega)).trans q2
      have hz' : w.heap.size + 1 + 1 < wr.heap.size := by omega
      go_wp2
      obtain ⟨f1, f2, f3⟩ := HFIN.out
      refine bodyPost_ret (v := DecV n (some ⟨W.heap.size, 0, none⟩) (L + 1) (L + 1) e) (by simp [results, Tryd.results44, go_sem, hz', r0', r1', r2']; done) rfl ⟨⟨_, _, 0 :: S, by rw [f2], ?_, by have := H.out.len; simp; omega, AllD.cons (by omega) H.out.all, ?_, Nat.le_refl _⟩, ?_⟩
      · have hrd := H.out.out.rd
        exact (((hrd.set_low _ hz).set_low _ hz).set_low _ hz).mono (by omega)
      · rw [← f3, val_cons]
        have h1 := HV.out
        rw [List.drop_zero, List.drop_zero] at h1
        have hS := val_lt H.out.all
        have hc0 : c = 0 := by
          rcases Nat.eq_zero_or_pos c with h0 | h0
          · exact h0
          · exfalso
            have h2 := Nat.mul_le_mul_right (T S.length) h0
            rw [Nat.one_mul] at h2
            omega
        rw [hc0] at h1
        omega
      · exact ((((hxW.trans hxr).set _ (by show w.heap.size ≤ w.heap.size + 1 + 1; omega)).set _ (by show w.heap.size ≤ w.heap.size + 1 + 1; omega)).set _ (by show w.heap.size ≤ w.heap.size + 1 + 1; omega))
    | succ j =>
      have hjL : j < L := by omega
      obtain ⟨x, hxj⟩ : ∃ x, X[j]? = some x := ⟨X[j]'(by have := HNX.out; omega), by rw [List.getElem?_eq_getElem]⟩
      obtain ⟨y, hyj⟩ : ∃ y, Y[j]? = some y := ⟨Y[j]'(by have := HNY.out; omega), by rw [List.getElem?_eq_getElem]⟩
      obtain ⟨ba, oa, rfl, _, hcx'⟩ := Rd.at_ (HX.out.ext hxr) hxj
      obtain ⟨bb, ob, rfl, _, hcy'⟩ := Rd.at_ (HY.out.ext hxr) hyj
      have hba := lt_of_cell hcx'
      have hbb := lt_of_cell hcy'
      simp only at hba hbb
      have hx10 := hax.at hxj
      have hy10 := hay.at hyj
      have HST := Lib.hid (fun d c' => sub_step (d := d) (c' := c') hxj hyj (by rw [HNX.out, HNY.out]) (by rw [H.out.len, HNX.out]) HV.out)
      obtain ⟨o0, o1⟩ := H.out.at
      have hji : (((j + 1 : Nat) : Int) - 1) = (j : Int) := by omega
      rw [hji]
      have HSP := Lib.hid (fun d (hd1 : d < 10) => H.out.step hd1 hj)
      clear hxj hyj
      by_cases hneg : x < y + c
      · have e1 : (x : Int) - (y : Int) - (c : Int) < 0 := by omega
        have e2 : (x : Int) - (y : Int) - (c : Int) + 10 = ((x + 10 - y - c : Nat) : Int) := by omega
        go_wp2
        refine wp_plan (S := Ext _) [(0, 0), (1, 0), (2, 0), (3, 0), (4, 0), (5, 0), (6, 0), (7, 0), (8, 0), (9, 0), (10, 0), (11, 0)] [] (by kernel_rfl) (by kernel_rfl) (by kernel_rfl) (fun _ _ d _ _ h => by cases d <;> exact h) (Ext.drew (Ext.refl _)) ?_
        (refine wpPl_read (v := ?_) rfl ?_ (fun w1 h1 => ?_) ?_; rotate_left 1; rfl; (obtain ⟨os1, d1, rfl⟩ := h1.more; go_simp; first | done | rfl))
        try simp only [Act.put, List.setIfInBounds_toArray, List.set_cons_zero, List.set_cons_succ]
        (refine wpPl_read (v := ?_) rfl ?_ (fun w1 h1 => ?_) ?_; rotate_left 1; rfl; (obtain ⟨os1, d1, rfl⟩ := h1.more; go_simp; first | done | rfl))
        try simp only [Act.put, List.setIfInBounds_toArray, List.set_cons_zero, List.set_cons_succ]
        (refine wpPl_read (v := ?_) rfl ?_ (fun w1 h1 => ?_) ?_; rotate_left 1; rfl; (obtain ⟨os1, d1, rfl⟩ := h1.more; go_simp; first | done | rfl))
        try simp only [Act.put, List.setIfInBounds_toArray, List.set_cons_zero, List.set_cons_succ]
        (refine wpPl_read (v := ?_) rfl ?_ (fun w1 h1 => ?_) ?_; rotate_left 1; rfl; (obtain ⟨os1, d1, rfl⟩ := h1.more; go_simp; first | done | rfl))
        try simp only [Act.put, List.setIfInBounds_toArray, List.set_cons_zero, List.set_cons_succ]
        (refine wpPl_read (v := ?_) rfl ?_ (fun w1 h1 => ?_) ?_; rotate_left 1; rfl; (obtain ⟨os1, d1, rfl⟩ := h1.more; go_simp; first | done | rfl))
        try simp only [Act.put, List.setIfInBounds_toArray, List.set_cons_zero, List.set_cons_succ]
        (refine wpPl_read (v := ?_) rfl ?_ (fun w1 h1 => ?_) ?_; rotate_left 1; rfl; (obtain ⟨os1, d1, rfl⟩ := h1.more; go_simp; first | done | rfl))
        try simp only [Act.put, List.setIfInBounds_toArray, List.set_cons_zero, List.set_cons_succ]
        (refine wpPl_read (v := ?_) rfl ?_ (fun w1 h1 => ?_) ?_; rotate_left 1; rfl; (obtain ⟨os1, d1, rfl⟩ := h1.more; go_simp; first | done | rfl))
        try simp only [Act.put, List.setIfInBounds_toArray, List.set_cons_zero, List.set_cons_succ]
        (refine wpPl_read (v := ?_) rfl ?_ (fun w1 h1 => ?_) ?_; rotate_left 1; rfl; (obtain ⟨os1, d1, rfl⟩ := h1.more; go_simp; first | done | rfl))
        try simp only [Act.put, List.setIfInBounds_toArray, List.set_cons_zero, List.set_cons_succ]
        (refine wpPl_read (v := ?_) rfl ?_ (fun w1 h1 => ?_) ?_; rotate_left 1; rfl; (obtain ⟨os1, d1, rfl⟩ := h1.more; go_simp; first | done | rfl))
        try simp only [Act.put, List.setIfInBounds_toArray, List.set_cons_zero, List.set_cons_succ]
        (refine wpPl_read (v := ?_) rfl ?_ (fun w1 h1 => ?_) ?_; rotate_left 1; rfl; (obtain ⟨os1, d1, rfl⟩ := h1.more; go_simp; first | done | rfl))
        try simp only [Act.put, List.setIfInBounds_toArray, List.set_cons_zero, List.set_cons_succ]
        (refine wpPl_read (v := ?_) rfl ?_ (fun w1 h1 => ?_) ?_; rotate_left 1; rfl; (obtain ⟨os1, d1, rfl⟩ := h1.more; go_simp; first | done | rfl))
        try simp only [Act.put, List.setIfInBounds_toArray, List.set_cons_zero, List.set_cons_succ]
        (refine wpPl_read (v := ?_) rfl ?_ (fun w1 h1 => ?_) ?_; rotate_left 1; rfl; (obtain ⟨os1, d1, rfl⟩ := h1.more; go_simp; first | done | rfl))
        try simp only [Act.put, List.setIfInBounds_toArray, List.set_cons_zero, List.set_cons_succ]
        refine wpPl_nil ?_
        go_wp2
        refine ⟨⟨j, 1, (x + 10 - y - c) :: S, by omega, by omega, by go_num, rfl, ?_, HST.out _ _ (by omega)⟩, by simp [intOf]⟩
        have := (HSP.out (x + 10 - y - c) (by omega)).drew
        exact this
      · have e1 : ¬ (x : Int) - (y : Int) - (c : Int) < 0 := by omega
        have e2 : (x : Int) - (y : Int) - (c : Int) = ((x - y - c : Nat) : Int) := by omega
        go_wp2
        refine wp_plan (S := Ext _) [(0, 0), (1, 0), (2, 0), (3, 0), (4, 0), (5, 0), (6, 0), (7, 0), (8, 0), (9, 0), (10, 0), (11, 0)] [] (by kernel_rfl) (by kernel_rfl) (by kernel_rfl) (fun _ _ d _ _ h => by cases d <;> exact h) (Ext.drew (Ext.refl _)) ?_
        (refine wpPl_read (v := ?_) rfl ?_ (fun w1 h1 => ?_) ?_; rotate_left 1; rfl; (obtain ⟨os1, d1, rfl⟩ := h1.more; go_simp; first | done | rfl))
        try simp only [Act.put, List.setIfInBounds_toArray, List.set_cons_zero, List.set_cons_succ]
        (refine wpPl_read (v := ?_) rfl ?_ (fun w1 h1 => ?_) ?_; rotate_left 1; rfl; (obtain ⟨os1, d1, rfl⟩ := h1.more; go_simp; first | done | rfl))
        try simp only [Act.put, List.setIfInBounds_toArray, List.set_cons_zero, List.set_cons_succ]
        (refine wpPl_read (v := ?_) rfl ?_ (fun w1 h1 => ?_) ?_; rotate_left 1; rfl; (obtain ⟨os1, d1, rfl⟩ := h1.more; go_simp; first | done | rfl))
        try simp only [Act.put, List.setIfInBounds_toArray, List.set_cons_zero, List.set_cons_succ]
        (refine wpPl_read (v := ?_) rfl ?_ (fun w1 h1 => ?_) ?_; rotate_left 1; rfl; (obtain ⟨os1, d1, rfl⟩ := h1.more; go_simp; first | done | rfl))
        try simp only [Act.put, List.setIfInBounds_toArray, List.set_cons_zero, List.set_cons_succ]
        (refine wpPl_read (v := ?_) rfl ?_ (fun w1 h1 => ?_) ?_; rotate_left 1; rfl; (obtain ⟨os1, d1, rfl⟩ := h1.more; go_simp; first | done | rfl))
        try simp only [Act.put, List.setIfInBounds_toArray, List.set_cons_zero, List.set_cons_succ]
        (refine wpPl_read (v := ?_) rfl ?_ (fun w1 h1 => ?_) ?_; rotate_left 1; rfl; (obtain ⟨os1, d1, rfl⟩ := h1.more; go_simp; first | done | rfl))
        try simp only [Act.put, List.setIfInBounds_toArray, List.set_cons_zero, List.set_cons_succ]
        (refine wpPl_read (v := ?_) rfl ?_ (fun w1 h1 => ?_) ?_; rotate_left 1; rfl; (obtain ⟨os1, d1, rfl⟩ := h1.more; go_simp; first | done | rfl))
        try simp only [Act.put, List.setIfInBounds_toArray, List.set_cons_zero, List.set_cons_succ]
        (refine wpPl_read (v := ?_) rfl ?_ (fun w1 h1 => ?_) ?_; rotate_left 1; rfl; (obtain ⟨os1, d1, rfl⟩ := h1.more; go_simp; first | done | rfl))
        try simp only [Act.put, List.setIfInBounds_toArray, List.set_cons_zero, List.set_cons_succ]
        (refine wpPl_read (v := ?_) rfl ?_ (fun w1 h1 => ?_) ?_; rotate_left 1; rfl; (obtain ⟨os1, d1, rfl⟩ := h1.more; go_simp; first | done | rfl))
        try simp only [Act.put, List.setIfInBounds_toArray, List.set_cons_zero, List.set_cons_succ]
        (refine wpPl_read (v := ?_) rfl ?_ (fun w1 h1 => ?_) ?_; rotate_left 1; rfl; (obtain ⟨os1, d1, rfl⟩ := h1.more; go_simp; first | done | rfl))
        try simp only [Act.put, List.setIfInBounds_toArray, List.set_cons_zero, List.set_cons_succ]
        (refine wpPl_read (v := ?_) rfl ?_ (fun w1 h1 => ?_) ?_; rotate_left 1; rfl; (obtain ⟨os1, d1, rfl⟩ := h1.more; go_simp; first | done | rfl))
        try simp only [Act.put, List.setIfInBounds_toArray, List.set_cons_zero, List.set_cons_succ]
        (refine wpPl_read (v := ?_) rfl ?_ (fun w1 h1 => ?_) ?_; rotate_left 1; rfl; (obtain ⟨os1, d1, rfl⟩ := h1.more; go_simp; first | done | rfl))
        try simp only [Act.put, List.setIfInBounds_toArray, List.set_cons_zero, List.set_cons_succ]
        refine wpPl_nil ?_
        go_wp2
        refine ⟨⟨j, 0, (x - y - c) :: S, by omega, by omega, by go_num, rfl, ?_, HST.out _ _ (by omega)⟩, by simp [intOf]⟩
        have := (HSP.out (x - y - c) (by omega)).drew
        exact this
theorem plus_any (na nb : Bool) (A B : Option Addr) (ca cb : Nat) (la lb : List Nat) (ea eb : Int) (e : Int) (ka kb L : Nat) (w : World) (ha : Rd 0 w A (i6 la)) (hb : Rd 0 w B (i6 lb)) (hla : la.length ≤ 1000) (hlb : lb.length ≤ 1000)
    (hka : ea = e + ka) (hkb : eb = e + kb) (hk0 : ka = 0 ∨ kb = 0) (hkk : ka ≤ 10000 ∧ kb ≤ 10000) (he : -1000000 ≤ e ∧ e ≤ 1000000) (hda : AllD la) (hdb : AllD lb) (hL : max (la.length + ka) (lb.length + kb) = L) :
    Calls Tryd.prog 44 #[DecV na A la.length ca ea, DecV nb B lb.length cb eb] w fun r w' => DecOut w (plusN na nb (val la * T ka) (val lb * T kb)).1 (L + 1) (plusN na nb (val la * T ka) (val lb * T kb)).2 e r w' ∧ Ext w w' := by
  unfold plusN
  by_cases h : na = nb
  · rw [if_pos h]
    subst h
    exact plus_same na A B ca cb la lb ea eb e ka kb L w ha hb hla hlb hka hkb hk0 hkk he hda hdb hL
  · rw [if_neg h]
    have := plus_diff na nb A B ca cb la lb ea eb e ka kb L w ha hb hla hlb hka hkb hk0 hkk he hda hdb h hL
    split
    · rename_i hlt; rw [if_pos hlt, if_pos hlt] at this; exact this
    · rename_i hlt; rw [if_neg hlt, if_neg hlt] at this; exact this
end Go.Proofs.YtihfiegopnjeiaaDoor
