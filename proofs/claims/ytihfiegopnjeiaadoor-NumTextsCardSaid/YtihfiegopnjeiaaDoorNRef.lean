/- Contracts of the references on numbers: counterpaneref01.digits, Of, Right. -/
import Derived.Test.YtihfiegopnjeiaaDoorNVal
namespace Go.Proofs.YtihfiegopnjeiaaDoor
set_option linter.unusedSimpArgs false
set_option linter.unusedVariables false
open Go.RowKit

theorem w64 {n : Int} (h : I64 n) : wrap64 n = n := IntWalk.wrap64_in n h
theorem one_ints {l : List Int} : ∀ u ∈ l.map (Value.int .i64), u.oneCell' = true := by
  intro u hu
  obtain ⟨x, _, rfl⟩ := List.mem_map.1 hu
  rfl

theorem info_int : (Tryd.prog.info? 3).map (fun i => (i.zero, i.size, i.bytes)) = some (some (.int .i64 0), 1, 8) := by kernel_rfl

set_option maxHeartbeats 400000 in
theorem digits_any (n : Int) (w : World) (h : I64 n) :
    Calls Tryd.prog 51 #[.int .i64 n] w fun e w' => ∃ A c, e = .returned (.slice A (digsI n).length c) ∧ SlI w.heap.size w' A (digsI n) ∧ Ext w w' ∧ (digsI n).length ≤ c := by
  obtain ⟨i0, hi, hz0, hz1, hz2⟩ := info_parts info_int
  have hI := Lib.hid (show I64 n from h)
  have hL := digs_len_le n.natAbs (by obtain ⟨h1, h2⟩ := h; omega)
  clear h
  go_enter Tryd.func51, Tryd.ntmps51
  go_wp2
  go_loopw [0, 3] (fun a v wr => ∃ (q : Int) (A : Option Addr) (c : Nat) (ds : List Int), Hid (I64 q) ∧ a = .int .i64 q ∧ v = .slice A ds.length c ∧ SlI w.heap.size wr A ds ∧ Ext w wr ∧ (A = none → ds = []) ∧ ds.length ≤ c ∧ Hid (digsI q ++ ds = digsI n)) (fun a _ _ => (intOf a).natAbs)
  case atStart => exact ⟨n, none, 0, [], hI, rfl, rfl, Rd.nil _ _ _, Ext.refl _, fun _ => rfl, Nat.le_refl _, by show _ = _; simp⟩
  case round =>
    obtain ⟨q, A, c, ds, HQ, rfl, rfl, hs, hx, hA, hcc, H⟩ := hrel
    by_cases hq : q = 0
    · subst hq
      go_wp2
      go_ret
      have he : ds = digsI n := by have := H.out; rwa [show digsI 0 = [] from by simp [digsI, digs_zero], List.nil_append] at this
      subst he
      exact ⟨A, c, rfl, hs, hx, hcc⟩
    · have hq1 : (q == 0) = false := by simp [hq]
      have hq2 : (q != 0) = true := by simp [hq]
      have hds : ds.length ≤ 20 := by have := congrArg List.length H.out; simp [digsI] at this; omega
      obtain ⟨ht1, ht2, ht3, ht4, ht5, ht6⟩ := tdivmod q
      have hstep : digsI q = digsI (q.tdiv 10) ++ [((q.natAbs % 10 : Nat) : Int)] := by
        unfold digsI
        rw [digs_pos (by omega), ht4]
        simp
      have HN : Hid (I64 (q.tdiv 10)) := by
        obtain ⟨h1, h2⟩ := HQ.out
        refine ⟨?_, ?_⟩ <;> omega
      have hms : (q.tdiv 10).natAbs < q.natAbs := by omega
      have HM := Lib.hid hms
      clear ht3 ht6 hms
      have Hst := Lib.hid hstep
      clear hstep
      by_cases hneg : q.tmod 10 < 0
      · have hd : -q.tmod 10 = ((q.natAbs % 10 : Nat) : Int) := by omega
        have Hd := Lib.hid hd
        clear hd ht4 ht5
        go_wp2_with (at_builtin; refine wpList_append_full _ rfl _ _ _ rfl 3 i0 (.int .i64 0) 1 8 Tryd.underlying43 hi hz0 hz1 hz2 rfl (by decide) w.heap.size _ 1 [.int .i64 (-q.tmod 10)] rfl (by simp) rfl ((Rd.one _ _ _).mono hx.size) (by have := hx.size; simp; omega) A ds.length c (ds.map (.int .i64)) rfl (by simp) ((Rd.alloc hs _).mono (Nat.zero_le _)) one_ints (by simp [maxLen]; omega) (by omega) ?_; intro A' c' os d hr hn' hc')
        rw [w64 HN.out]
        refine ⟨⟨q.tdiv 10, A', c', (-q.tmod 10) :: ds, HN, rfl, by simp [Nat.add_comm], hr, by repeat (first | exact hx | exact Ext.refl _ | apply Ext.drew | apply Ext.alloc | apply Ext.more_), fun h => absurd (hn' h) (by omega), by simp; omega, ?_⟩, HM.out⟩
        show _ = _
        rw [← H.out, Hst.out, ← Hd.out, List.append_assoc, List.singleton_append]
      · have hd : q.tmod 10 = ((q.natAbs % 10 : Nat) : Int) := by omega
        have Hd := Lib.hid hd
        clear hd ht4 ht5
        go_wp2_with (at_builtin; refine wpList_append_full _ rfl _ _ _ rfl 3 i0 (.int .i64 0) 1 8 Tryd.underlying43 hi hz0 hz1 hz2 rfl (by decide) w.heap.size _ 1 [.int .i64 (q.tmod 10)] rfl (by simp) rfl ((Rd.one _ _ _).mono hx.size) (by have := hx.size; simp; omega) A ds.length c (ds.map (.int .i64)) rfl (by simp) ((Rd.alloc hs _).mono (Nat.zero_le _)) one_ints (by simp [maxLen]; omega) (by omega) ?_; intro A' c' os d hr hn' hc')
        rw [w64 HN.out]
        refine ⟨⟨q.tdiv 10, A', c', (q.tmod 10) :: ds, HN, rfl, by simp [Nat.add_comm], hr, by repeat (first | exact hx | exact Ext.refl _ | apply Ext.drew | apply Ext.alloc | apply Ext.more_), fun h => absurd (hn' h) (by omega), by simp; omega, ?_⟩, HM.out⟩
        show _ = _
        rw [← H.out, Hst.out, ← Hd.out, List.append_assoc, List.singleton_append]

set_option maxHeartbeats 400000 in
theorem refOf_any (m ex : Int) (w : World) (h : I64 m) :
    Calls Tryd.prog 45 #[NV m ex] w fun e w' => ∃ A c, e = .returned (.agg #[.bool (decide (m < 0)), .slice A (digsI m).length c, .int .i64 ex]) ∧ SlI w.heap.size w' A (digsI m) ∧ Ext w w' ∧ (digsI m).length ≤ c := by
  go_enter Tryd.func45, Tryd.ntmps45
  go_wp2
  refine wp_plan (S := Ext _) [(0, 0), (1, 0), (2, 0), (3, 0), (4, 0), (6, 0), (7, 0), (5, 1), (8, 0), (9, 2)] [9] (by kernel_rfl) (by kernel_rfl) (by kernel_rfl) (fun _ _ d _ _ h => by cases d <;> exact h) (Ext.drew (Ext.refl _)) ?_
  (refine wpPl_read (v := ?_) rfl ?_ (fun w1 h1 => ?_) ?_; rotate_left 1; rfl; (obtain ⟨os1, d1, rfl⟩ := h1.more; go_simp; first | done | rfl))
  try simp only [Act.put, List.setIfInBounds_toArray, List.set_cons_zero, List.set_cons_succ]
  (refine wpPl_read (v := ?_) rfl ?_ (fun w1 h1 => ?_) ?_; rotate_left 1; rfl; (obtain ⟨os1, d1, rfl⟩ := h1.more; go_simp; first | done | rfl))
  try simp only [Act.put, List.setIfInBounds_toArray, List.set_cons_zero, List.set_cons_succ]
  (refine wpPl_read (v := ?_) rfl ?_ (fun w1 h1 => ?_) ?_; rotate_left 1; rfl; (obtain ⟨os1, d1, rfl⟩ := h1.more; go_simp; first | done | rfl))
  try simp only [Act.put, List.setIfInBounds_toArray, List.set_cons_zero, List.set_cons_succ]
  (refine wpPl_read (v := ?_) rfl ?_ (fun w1 h1 => ?_) ?_; rotate_left 1; rfl; (obtain ⟨os1, d1, rfl⟩ := h1.more; go_simp; first | done | rfl))
  try simp only [Act.put, List.setIfInBounds_toArray, List.set_cons_zero, List.set_cons_succ]
  (refine wpPl_read (v := ?_) rfl ?_ (fun w1 h1 => ?_) ?_; rotate_left 1; rfl; (obtain ⟨os1, d1, rfl⟩ := h1.more; go_simp; first | done | rfl))
  try simp only [Act.put, List.setIfInBounds_toArray, List.set_cons_zero, List.set_cons_succ]
  (refine wpPl_read (v := ?_) rfl ?_ (fun w1 h1 => ?_) ?_; rotate_left 1; rfl; (obtain ⟨os1, d1, rfl⟩ := h1.more; go_simp; first | done | rfl))
  try simp only [Act.put, List.setIfInBounds_toArray, List.set_cons_zero, List.set_cons_succ]
  (refine wpPl_read (v := ?_) rfl ?_ (fun w1 h1 => ?_) ?_; rotate_left 1; rfl; (obtain ⟨os1, d1, rfl⟩ := h1.more; go_simp; first | done | rfl))
  try simp only [Act.put, List.setIfInBounds_toArray, List.set_cons_zero, List.set_cons_succ]
  (refine wpPl_eff rfl ?_ (fun K hK => ?_); rfl; go_simp; refine (digits_any _ _ h).mono ?_; rintro e w' ⟨A, c, rfl, hs, hb, hcc⟩; obtain ⟨os, d, rfl⟩ := hb.more; refine hK _ _ ?_ ?_; (repeat (first | with_reducible exact Ext.refl _ | with_reducible exact ext_d _ _ _ _ | with_reducible exact ext_app _ _ _ _ _ | with_reducible exact ext_app2 _ _ _ _ _ _ | with_reducible exact ext_app3 _ _ _ _ _ _ _ | with_reducible exact ext_app4 _ _ _ _ _ _ _ _ | with_reducible exact ext_app5 _ _ _ _ _ _ _ _ _ | ((with_reducible refine ext_suffix ⟨_, ?_⟩); (try simp only [Array.append_assoc]); rfl) | with_reducible apply Ext.drew | with_reducible apply Ext.alloc | with_reducible apply Ext.more_ | apply Ext.drew | apply Ext.alloc | apply Ext.more_)))
  try simp only [Act.put, List.setIfInBounds_toArray, List.set_cons_zero, List.set_cons_succ]
  (refine wpPl_read (v := ?_) rfl ?_ (fun w1 h1 => ?_) ?_; rotate_left 1; rfl; (obtain ⟨os1, d1, rfl⟩ := h1.more; go_simp; first | done | rfl))
  try simp only [Act.put, List.setIfInBounds_toArray, List.set_cons_zero, List.set_cons_succ]
  (refine wpPl_tail rfl ?_ (fun K hK => ?_); rfl; go_simp; refine hK _ _ ?_)
  try simp only [Act.put]
  refine wpPl_nil ?_
  go_wp2
  refine bodyPost_ret (v := .agg #[.bool (decide (m < 0)), .slice A (digsI m).length c, .int .i64 ex]) (by simp [results, Tryd.results45, go_sem]; done) rfl ⟨A, c, rfl, Rd.swap hs (by simp) (by simp) (by simp; omega), by repeat (first | exact Ext.refl _ | apply Ext.drew | apply Ext.alloc | apply Ext.more_), hcc⟩

set_option maxRecDepth 100000 in
set_option maxHeartbeats 400000 in
theorem refNumRight_any (m ex : Int) (w : World) (h : I64 m) :
    Calls Tryd.prog 18 #[NV m ex] w fun e w' => e = .returned (.bool (refNumRight m ex)) ∧ Ext w w' := by
  by_cases h0 : m = 0
  · have e : refNumRight m ex = (ex == 0) := by simp [refNumRight, h0]
    rw [e]
    have h0 : (m == 0) = true := by simp [h0]
    go_enter Tryd.func18, Tryd.ntmps18
    go_wp2
    go_ret
    exact ⟨rfl, by repeat (first | exact Ext.refl _ | apply Ext.drew | apply Ext.alloc | apply Ext.more_)⟩
  · have h0' : (m == 0) = false := by simp [h0]
    by_cases h1 : 1000000000000000 ≤ m
    · have e : refNumRight m ex = false := by simp [refNumRight, h0, h1]
      rw [e]; clear h0 e
      go_enter Tryd.func18, Tryd.ntmps18; go_wp2; go_ret; exact ⟨rfl, by repeat (first | exact Ext.refl _ | apply Ext.drew | apply Ext.alloc | apply Ext.more_)⟩
    by_cases h2 : m ≤ -1000000000000000
    · have e : refNumRight m ex = false := by simp [refNumRight, h0, h2]
      rw [e]; clear h0 e
      go_enter Tryd.func18, Tryd.ntmps18; go_wp2; go_ret; exact ⟨rfl, by repeat (first | exact Ext.refl _ | apply Ext.drew | apply Ext.alloc | apply Ext.more_)⟩
    by_cases h3 : m.tmod 10 = 0
    · have e : refNumRight m ex = false := by simp [refNumRight, h0, h3]
      rw [e]; clear h0 e
      have h3 : (m.tmod 10 == 0) = true := by simp [h3]
      go_enter Tryd.func18, Tryd.ntmps18; go_wp2; go_ret; exact ⟨rfl, by repeat (first | exact Ext.refl _ | apply Ext.drew | apply Ext.alloc | apply Ext.more_)⟩
    have h3' : (m.tmod 10 == 0) = false := by simp [h3]
    by_cases h4 : ex < -40
    · have e : refNumRight m ex = false := by simp [refNumRight, h0, h4]
      rw [e]; clear h0 e h3
      go_enter Tryd.func18, Tryd.ntmps18; go_wp2; go_ret; exact ⟨rfl, by repeat (first | exact Ext.refl _ | apply Ext.drew | apply Ext.alloc | apply Ext.more_)⟩
    by_cases h5 : 40 < ex
    · have e : refNumRight m ex = false := by simp [refNumRight, h0, h5]
      rw [e]; clear h0 e h3
      go_enter Tryd.func18, Tryd.ntmps18; go_wp2; go_ret; exact ⟨rfl, by repeat (first | exact Ext.refl _ | apply Ext.drew | apply Ext.alloc | apply Ext.more_)⟩
    have e : refNumRight m ex = decide (countI (sizeI m) + ex ≤ 40) := by unfold refNumRight; rw [if_neg h0, if_neg (by omega)]
    have hl : countI (sizeI m) = (digsI m).length := by
      unfold countI digsI
      rw [sizeI_nat, Int.toNat_natCast, List.length_map, digs_length 20 _ (by omega) (by omega)]
    rw [e, hl]; clear h0 e h3
    have hL := digs_len_le m.natAbs (by obtain ⟨h1, h2⟩ := h; omega)
    have hL' : (digsI m).length ≤ 20 := by simpa [digsI] using hL
    clear hL hl
    have hw : IntKind.i64.wrap (((digsI m).length : Int) + ex) = ((digsI m).length : Int) + ex := by rw [IntKind.wrap_i64]; omega
    go_enter Tryd.func18, Tryd.ntmps18
    go_wp2
    refine wp_plan (S := Ext _) [(0, 0), (4, 0), (5, 0), (1, 1), (2, 0), (3, 0), (6, 0), (7, 0), (8, 0)] [] (by kernel_rfl) (by kernel_rfl) (by kernel_rfl) (fun _ _ d _ _ h => by cases d <;> exact h) (Ext.drew (Ext.refl _)) ?_
    (refine wpPl_read (v := ?_) rfl ?_ (fun w1 h1 => ?_) ?_; rotate_left 1; rfl; (obtain ⟨os1, d1, rfl⟩ := h1.more; go_simp; first | done | rfl))
    try simp only [Act.put, List.setIfInBounds_toArray, List.set_cons_zero, List.set_cons_succ]
    (refine wpPl_read (v := ?_) rfl ?_ (fun w1 h1 => ?_) ?_; rotate_left 1; rfl; (obtain ⟨os1, d1, rfl⟩ := h1.more; go_simp; first | done | rfl))
    try simp only [Act.put, List.setIfInBounds_toArray, List.set_cons_zero, List.set_cons_succ]
    (refine wpPl_read (v := ?_) rfl ?_ (fun w1 h1 => ?_) ?_; rotate_left 1; rfl; (obtain ⟨os1, d1, rfl⟩ := h1.more; go_simp; first | done | rfl))
    try simp only [Act.put, List.setIfInBounds_toArray, List.set_cons_zero, List.set_cons_succ]
    (refine wpPl_eff rfl ?_ (fun K hK => ?_); rfl; go_simp; refine (refOf_any _ _ _ h).mono ?_; rintro e w' ⟨A, c, rfl, hs, hb, hcc⟩; obtain ⟨os, d, rfl⟩ := hb.more; refine hK _ _ ?_ ?_; (repeat (first | with_reducible exact Ext.refl _ | with_reducible exact ext_d _ _ _ _ | with_reducible exact ext_app _ _ _ _ _ | with_reducible exact ext_app2 _ _ _ _ _ _ | with_reducible exact ext_app3 _ _ _ _ _ _ _ | with_reducible exact ext_app4 _ _ _ _ _ _ _ _ | with_reducible exact ext_app5 _ _ _ _ _ _ _ _ _ | ((with_reducible refine ext_suffix ⟨_, ?_⟩); (try simp only [Array.append_assoc]); rfl) | with_reducible apply Ext.drew | with_reducible apply Ext.alloc | with_reducible apply Ext.more_ | apply Ext.drew | apply Ext.alloc | apply Ext.more_)))
    try simp only [Act.put, List.setIfInBounds_toArray, List.set_cons_zero, List.set_cons_succ]
    (refine wpPl_read (v := ?_) rfl ?_ (fun w1 h1 => ?_) ?_; rotate_left 1; rfl; (obtain ⟨os1, d1, rfl⟩ := h1.more; go_simp; first | done | rfl))
    try simp only [Act.put, List.setIfInBounds_toArray, List.set_cons_zero, List.set_cons_succ]
    (refine wpPl_read (v := ?_) rfl ?_ (fun w1 h1 => ?_) ?_; rotate_left 1; rfl; (obtain ⟨os1, d1, rfl⟩ := h1.more; go_simp; first | done | rfl))
    try simp only [Act.put, List.setIfInBounds_toArray, List.set_cons_zero, List.set_cons_succ]
    (refine wpPl_read (v := ?_) rfl ?_ (fun w1 h1 => ?_) ?_; rotate_left 1; rfl; (obtain ⟨os1, d1, rfl⟩ := h1.more; go_simp; first | done | rfl))
    try simp only [Act.put, List.setIfInBounds_toArray, List.set_cons_zero, List.set_cons_succ]
    (refine wpPl_read (v := ?_) rfl ?_ (fun w1 h1 => ?_) ?_; rotate_left 1; rfl; (obtain ⟨os1, d1, rfl⟩ := h1.more; go_simp; first | done | rfl))
    try simp only [Act.put, List.setIfInBounds_toArray, List.set_cons_zero, List.set_cons_succ]
    (refine wpPl_read (v := ?_) rfl ?_ (fun w1 h1 => ?_) ?_; rotate_left 1; rfl; (obtain ⟨os1, d1, rfl⟩ := h1.more; go_simp; first | done | rfl))
    try simp only [Act.put, List.setIfInBounds_toArray, List.set_cons_zero, List.set_cons_succ]
    refine wpPl_nil ?_
    go_wp2
    go_ret
    exact ⟨rfl, by repeat (first | exact Ext.refl _ | apply Ext.drew | apply Ext.alloc | apply Ext.more_)⟩


end Go.Proofs.YtihfiegopnjeiaaDoor
