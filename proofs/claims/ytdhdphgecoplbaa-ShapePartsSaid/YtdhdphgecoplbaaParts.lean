/- The law ShapeParts: its walk. -/
import Derived.Test.YtdhdphgecoplbaaPlaces
import Derived.Test.YtdhdphgecoplbaaFloat
namespace Go.Proofs.Ytdhdphgecoplbaa
open Go.RowKit
/-- An array's values stand in no array's variable: that one may turn. -/
theorem ArrIn.box {X : World} {os : Array Obj} {d : Nat} {i0 i1 : Int} {p : Option Addr} {q r : Nat} {ty : TypeId} {A : Option Addr} {n cap : Nat} {l : List Val} (h : ArrIn (more (X.alloc (.cells #[.int .i64 i0, .int .i64 i1, .slice p q r] ty)) os d) A n cap l) (C' : Array Value) (ty' : TypeId) (d' : Nat) :
    ArrIn (more (X.alloc (.cells C' ty')) os d') A n cap l := by
  refine ⟨fun j u hu => ?_, h.len, h.cap, h.small, h.ok⟩
  obtain ⟨b, off, hA, hb, hc⟩ := h.rd j u hu
  refine ⟨b, off, hA, hb, ?_⟩
  have hne : b ≠ X.heap.size := by
    intro e
    cases l with
    | nil => simp [vcells] at hu
    | cons x l =>
      obtain ⟨b', off', hA', _, hc3⟩ := h.rd 3 (.string x.text) (by simp [vcells, Val.cells])
      rw [hA] at hA'
      simp only [Option.some.injEq, Addr.mk.injEq, and_true] at hA'
      obtain ⟨rfl, rfl⟩ := hA'
      subst e
      rw [more_cell _ _ _ _ _ (by simp), World.cell?_alloc_at _ _ _ _ rfl] at hc3
      simp at hc3
  rw [← hc]
  refine World.cell?_of_block ?_
  show (more (X.alloc (.cells C' ty')) os d').heap[b]? = (more (X.alloc _) os d).heap[b]?
  simp only [more, World.alloc, Array.getElem?_append, Array.size_push, Array.getElem?_push]
  by_cases hlt : b < X.heap.size + 1
  · rw [if_pos hlt, if_pos hlt, if_neg hne, if_neg hne]
  · rw [if_neg hlt, if_neg hlt]
theorem partOk_mk {R C row col rows cols : Nat} {l : List Val} (hr : rightA R C l = true) (h1 : 1 ≤ rows) (h2 : 1 ≤ cols) (h3 : row + rows ≤ R) (h4 : col + cols ≤ C) : partOk R C l row col rows cols = true := by
  have : hasB R C row col = true := hasB_iff.2 (by omega)
  simp [partOk, hr, this]; omega
theorem parts_plain (R1 C1 R2 C2 : Nat) (l1 l2 : List Val) (h1 : rightA R1 C1 l1 = true) (h2 : rightA R2 C2 l2 = true) (hf : max R1 R2 * (C1 + C2) ≤ 4096) :
    ∃ X Y : NA, besideO ⟨R1, C1, l1⟩ ⟨R2, C2, l2⟩ = some X ∧ X.right ∧ partO X.R X.C X.l 0 0 R1 C1 = some ⟨R1, C1, l1⟩ ∧ partO X.R X.C X.l 0 C1 R2 C2 = some ⟨R2, C2, l2⟩ ∧
      belowO ⟨C1, R1, turnL R1 C1 l1⟩ ⟨C2, R2, turnL R2 C2 l2⟩ = some Y ∧ Y.right ∧ sameA Y.C Y.R (turnL Y.R Y.C Y.l) X.R X.C X.l = true := by
  obtain ⟨a1, a2, a3, a4, a5⟩ := rightA_nat.1 h1
  obtain ⟨b1, b2, b3, b4, b5⟩ := rightA_nat.1 h2
  have hj : besideO ⟨R1, C1, l1⟩ ⟨R2, C2, l2⟩ = some ⟨max R1 R2, C1 + C2, besideL R1 C1 l1 R2 C2 l2⟩ := by simp [besideO, hf]
  have hf' : (C1 + C2) * max R1 R2 ≤ 4096 := by rw [Nat.mul_comm]; exact hf
  have hy : belowO ⟨C1, R1, turnL R1 C1 l1⟩ ⟨C2, R2, turnL R2 C2 l2⟩ = some ⟨C1 + C2, max R1 R2, belowL C1 R1 (turnL R1 C1 l1) C2 R2 (turnL R2 C2 l2)⟩ := by simp [belowO, hf']
  have hx := beside_right (a := ⟨R1, C1, l1⟩) (b := ⟨R2, C2, l2⟩) h1 h2 hj
  have hyr := below_right (a := ⟨C1, R1, turnL R1 C1 l1⟩) (b := ⟨C2, R2, turnL R2 C2 l2⟩) (turn_right h1) (turn_right h2) hy
  have hx' : rightA (max R1 R2 : Nat) (C1 + C2 : Nat) (besideL R1 C1 l1 R2 C2 l2) = true := hx
  have e1 : partOk (max R1 R2 : Nat) (C1 + C2 : Nat) (besideL R1 C1 l1 R2 C2 l2) 0 0 R1 C1 = true := by
    exact partOk_mk (row := 0) (col := 0) hx' a1 a2 (by omega) (by omega)
  have e2 : partOk (max R1 R2 : Nat) (C1 + C2 : Nat) (besideL R1 C1 l1 R2 C2 l2) 0 C1 R2 C2 = true := by
    exact partOk_mk (row := 0) (col := C1) hx' b1 b2 (by omega) (by omega)
  refine ⟨_, _, hj, hx, ?_, ?_, hy, hyr, ?_⟩
  · simp only [partO, e1, if_true]
    have := part_left R1 C1 l1 R2 C2 l2 a4
    simpa using this
  · simp only [partO, e2, if_true]
    have := part_right R1 C1 l1 R2 C2 l2 b4
    simpa using this
  · simp only [turn_below]
    simp [sameA]
theorem parts_none {R1 C1 R2 C2 : Nat} (h1 : R1 ≤ 4096) (h2 : R2 ≤ 4096) (h3 : C1 ≤ 4096) (h4 : C2 ≤ 4096) (hf : ¬ max R1 R2 * (C1 + C2) ≤ 4096) :
    (decide (4096 < IntKind.i64.wrap ((R1 : Int) * IntKind.i64.wrap ((C1 : Int) + (C2 : Int)))) || decide (4096 < IntKind.i64.wrap ((R2 : Int) * IntKind.i64.wrap ((C1 : Int) + (C2 : Int))))) = true := by
  rw [show IntKind.i64.wrap ((C1 : Int) + (C2 : Int)) = (C1 : Int) + (C2 : Int) by rw [IntKind.wrap_i64]; omega]
  have w1 : ∀ R : Nat, R ≤ 4096 → IntKind.i64.wrap ((R : Int) * ((C1 : Int) + (C2 : Int))) = ((R * (C1 + C2) : Nat) : Int) := fun R hR => by
    have : R * (C1 + C2) ≤ 4096 * 8192 := Nat.mul_le_mul hR (by omega)
    rw [IntKind.wrap_i64, Int.natCast_mul, Int.natCast_add]
    have h5 : ((R * (C1 + C2) : Nat) : Int) ≤ 4096 * 8192 := by omega
    rw [Int.natCast_mul, Int.natCast_add] at h5
    have h0 : (0 : Int) ≤ (R : Int) * ((C1 : Int) + (C2 : Int)) := Int.mul_nonneg (by omega) (by omega)
    omega
  rw [w1 R1 h1, w1 R2 h2]
  rcases Nat.le_total R2 R1 with h | h
  · rw [Nat.max_eq_left h] at hf
    simp only [Bool.or_eq_true, decide_eq_true_eq]
    left; omega
  · rw [Nat.max_eq_right h] at hf
    simp only [Bool.or_eq_true, decide_eq_true_eq]
    right; omega
set_option maxRecDepth 100000 in
set_option maxHeartbeats 4000000 in
theorem parts_any (r1 c1 r2 c2 : Int) (A1 A2 : Option Addr) (n1 cap1 n2 cap2 : Nat) (l1 l2 : List Val) (w : World) (h1 : ArrIn w A1 n1 cap1 l1) (h2 : ArrIn w A2 n2 cap2 l2) :
    Calls Try.prog 7 #[AV r1 c1 (.slice A1 n1 cap1), AV r2 c2 (.slice A2 n2 cap2)] w fun e w' => e = .returned (.bool true) ∧ Ext w w' := by
  go_enter Try.func7, Try.ntmps7
  go_wp2_with fail
  refine (awake_any _).mono ?_; rintro e w' ⟨rfl, hb⟩; obtain ⟨os1, d1, rfl⟩ := hb.more; clear hb
  go_wp2_with fail
  refine (small_any _ _ _ _ _ _ _ (h1.ext (by repeat (first | with_reducible exact Ext.refl _ | with_reducible exact hX | with_reducible exact ext_d _ _ _ _ | with_reducible exact ext_app _ _ _ _ _ | ((with_reducible refine ext_suffix ⟨_, ?_⟩); (try simp only [Array.append_assoc]); rfl) | with_reducible apply Ext.drew | with_reducible apply Ext.alloc | with_reducible apply Ext.more_)))).mono ?_; rintro e w' ⟨sm, rfl, hsm, hb⟩; obtain ⟨os2, d2, rfl⟩ := hb.more; clear hb; rcases hsm with rfl | ⟨rfl, hn, htx⟩; (focus go_wp2; go_ret; exact ⟨rfl, by repeat (first | with_reducible exact Ext.refl _ | with_reducible exact hX | with_reducible exact ext_d _ _ _ _ | with_reducible exact ext_app _ _ _ _ _ | ((with_reducible refine ext_suffix ⟨_, ?_⟩); (try simp only [Array.append_assoc]); rfl) | with_reducible apply Ext.drew | with_reducible apply Ext.alloc | with_reducible apply Ext.more_)⟩); clear hn htx; go_wp2_with fail; generalize os1 ++ os2 = oz2; clear os1 os2
  refine (small_any _ _ _ _ _ _ _ (h2.ext (by repeat (first | with_reducible exact Ext.refl _ | with_reducible exact hX | with_reducible exact ext_d _ _ _ _ | with_reducible exact ext_app _ _ _ _ _ | ((with_reducible refine ext_suffix ⟨_, ?_⟩); (try simp only [Array.append_assoc]); rfl) | with_reducible apply Ext.drew | with_reducible apply Ext.alloc | with_reducible apply Ext.more_)))).mono ?_; rintro e w' ⟨sm, rfl, hsm, hb⟩; obtain ⟨os3, d3, rfl⟩ := hb.more; clear hb; rcases hsm with rfl | ⟨rfl, hn, htx⟩; (focus go_wp2; go_ret; exact ⟨rfl, by repeat (first | with_reducible exact Ext.refl _ | with_reducible exact hX | with_reducible exact ext_d _ _ _ _ | with_reducible exact ext_app _ _ _ _ _ | ((with_reducible refine ext_suffix ⟨_, ?_⟩); (try simp only [Array.append_assoc]); rfl) | with_reducible apply Ext.drew | with_reducible apply Ext.alloc | with_reducible apply Ext.more_)⟩); clear hn htx; go_wp2_with fail; generalize oz2 ++ os3 = oz3; clear oz2 os3
  refine (refRightA_any _ _ _ _ _ _ _ (h1.ext (by repeat (first | with_reducible exact Ext.refl _ | with_reducible exact hX | with_reducible exact ext_d _ _ _ _ | with_reducible exact ext_app _ _ _ _ _ | ((with_reducible refine ext_suffix ⟨_, ?_⟩); (try simp only [Array.append_assoc]); rfl) | with_reducible apply Ext.drew | with_reducible apply Ext.alloc | with_reducible apply Ext.more_)))).mono ?_; rintro e w' ⟨rfl, hb⟩; obtain ⟨os4, d4, rfl⟩ := hb.more; clear hb; generalize hr1 : refRightA _ _ _ = b; cases b; (focus go_wp2; go_ret; exact ⟨rfl, by repeat (first | with_reducible exact Ext.refl _ | with_reducible exact hX | with_reducible exact ext_d _ _ _ _ | with_reducible exact ext_app _ _ _ _ _ | ((with_reducible refine ext_suffix ⟨_, ?_⟩); (try simp only [Array.append_assoc]); rfl) | with_reducible apply Ext.drew | with_reducible apply Ext.alloc | with_reducible apply Ext.more_)⟩); go_wp2_with fail; generalize oz3 ++ os4 = oz4; clear oz3 os4
  refine (refRightA_any _ _ _ _ _ _ _ (h2.ext (by repeat (first | with_reducible exact Ext.refl _ | with_reducible exact hX | with_reducible exact ext_d _ _ _ _ | with_reducible exact ext_app _ _ _ _ _ | ((with_reducible refine ext_suffix ⟨_, ?_⟩); (try simp only [Array.append_assoc]); rfl) | with_reducible apply Ext.drew | with_reducible apply Ext.alloc | with_reducible apply Ext.more_)))).mono ?_; rintro e w' ⟨rfl, hb⟩; obtain ⟨os5, d5, rfl⟩ := hb.more; clear hb
  generalize hr2 : refRightA _ _ _ = b
  cases b
  · go_wp2
    go_ret
    exact ⟨rfl, by repeat (first | with_reducible exact Ext.refl _ | with_reducible exact hX | with_reducible exact ext_d _ _ _ _ | with_reducible exact ext_app _ _ _ _ _ | ((with_reducible refine ext_suffix ⟨_, ?_⟩); (try simp only [Array.append_assoc]); rfl) | with_reducible apply Ext.drew | with_reducible apply Ext.alloc | with_reducible apply Ext.more_)⟩
  rw [← rightA_eq _ _ _ h1.ok] at hr1
  rw [← rightA_eq _ _ _ h2.ok] at hr2
  obtain ⟨R1, C1, rfl, rfl, _⟩ := right_parts hr1
  obtain ⟨R2, C2, rfl, rfl, _⟩ := right_parts hr2
  go_wp2_with fail; generalize oz4 ++ os5 = oz5; clear oz4 os5
  by_cases hf : max R1 R2 * (C1 + C2) ≤ 4096
  · obtain ⟨X, Y, hj, hrX, hp1, hp2, hy, hrY, hs3⟩ := parts_plain R1 C1 R2 C2 l1 l2 hr1 hr2 hf
    have HJ := Lib.hid (And.intro hj (And.intro hp1 (And.intro hp2 hy)))
    clear hj hp1 hp2 hy hf
    have hs1 : sameA R1 C1 l1 R1 C1 l1 = true := by simp [sameA]
    have hs2 : sameA R2 C2 l2 R2 C2 l2 = true := by simp [sameA]
    refine (beside_c ⟨R1, C1, l1⟩ ⟨R2, C2, l2⟩ _ _ _ _ _ _ _ (h1.ext (by repeat (first | with_reducible exact Ext.refl _ | with_reducible exact hX | with_reducible exact ext_d _ _ _ _ | with_reducible exact ext_app _ _ _ _ _ | ((with_reducible refine ext_suffix ⟨_, ?_⟩); (try simp only [Array.append_assoc]); rfl) | with_reducible apply Ext.drew | with_reducible apply Ext.alloc | with_reducible apply Ext.more_))) (h2.ext (by repeat (first | with_reducible exact Ext.refl _ | with_reducible exact hX | with_reducible exact ext_d _ _ _ _ | with_reducible exact ext_app _ _ _ _ _ | ((with_reducible refine ext_suffix ⟨_, ?_⟩); (try simp only [Array.append_assoc]); rfl) | with_reducible apply Ext.drew | with_reducible apply Ext.alloc | with_reducible apply Ext.more_))) hr1 hr2 X true (by rw [HJ.out.1]; rfl) (by rw [HJ.out.1]; rfl)).mono ?_
    rintro e w' ⟨D, m, c, rfl, hD, hDs, hb⟩
    obtain ⟨os6, d6, rfl⟩ := hb.more
    clear hb hDs
    simp only [more_more] at hD
    go_wp2_with fail
    refine (part_c X.R X.C D m c X.l _ (hD.ext (by repeat (first | with_reducible exact Ext.refl _ | with_reducible exact hX | with_reducible exact ext_d _ _ _ _ | with_reducible exact ext_app _ _ _ _ _ | ((with_reducible refine ext_suffix ⟨_, ?_⟩); (try simp only [Array.append_assoc]); rfl) | with_reducible apply Ext.drew | with_reducible apply Ext.alloc | with_reducible apply Ext.more_))) hrX 0 0 R1 C1 ⟨R1, C1, l1⟩ true (by rw [HJ.out.2.1]; rfl) (by rw [HJ.out.2.1]; rfl)).mono ?_
    rintro e w' ⟨D2, m2, cc2, rfl, hD2, hDs, hb⟩
    obtain ⟨os7, d7, rfl⟩ := hb.more
    clear hb hDs
    go_wp2_with fail
    refine (part_c X.R X.C D m c X.l _ (hD.ext (by repeat (first | with_reducible exact Ext.refl _ | with_reducible exact hX | with_reducible exact ext_d _ _ _ _ | with_reducible exact ext_app _ _ _ _ _ | ((with_reducible refine ext_suffix ⟨_, ?_⟩); (try simp only [Array.append_assoc]); rfl) | with_reducible apply Ext.drew | with_reducible apply Ext.alloc | with_reducible apply Ext.more_))) hrX 0 C1 R2 C2 ⟨R2, C2, l2⟩ true (by rw [HJ.out.2.2.1]; rfl) (by rw [HJ.out.2.2.1]; rfl)).mono ?_
    rintro e w' ⟨D3, m3, cc3, rfl, hD3, hDs, hb⟩
    obtain ⟨os8, d8, rfl⟩ := hb.more
    clear hb hDs
    go_wp2_with fail
    refine wp_float [(8, 11, (.cells #[.int .i64 0, .int .i64 0, .slice none 0 0] 25))] [(0, 0), (2, 0), (1, 1), (3, 1), (4, 1), (5, 0), (6, 0), (7, 2)] [9, 10] [9, 10] [7] (by kernel_rfl) (by kernel_rfl) (by kernel_rfl) (fun _ _ d _ _ h => by cases d <;> exact h) (fun _ _ d _ _ h => by cases d <;> exact h) (fun x hx o ho a w => by (obtain rfl := List.mem_singleton.1 hx); (obtain rfl := Option.some.inj ho); (first | rfl | (simp [go_sem, ptrB]; done) | (go_simp; rfl))) ?_
    (refine wpFp_read (v := ?_) rfl ?_ (fun w1 h1 => ?_) ?_; rotate_left 1; rfl; (obtain ⟨os1, d1, rfl⟩ := h1.more; go_simp; first | done | rfl))
    try simp only [Act.put, List.setIfInBounds_toArray, List.set_cons_zero, List.set_cons_succ]
    (refine wpFp_read (v := ?_) rfl ?_ (fun w1 h1 => ?_) ?_; rotate_left 1; rfl; (obtain ⟨os1, d1, rfl⟩ := h1.more; go_simp; first | done | rfl))
    try simp only [Act.put, List.setIfInBounds_toArray, List.set_cons_zero, List.set_cons_succ]
    (refine wpFp_eff rfl ?_ (fun wf hXf hE K hK => ?_); rfl; obtain ⟨osf, df, rfl⟩ := hXf.more; go_simp; refine (turn_c R1 C1 A1 n1 cap1 l1 _ (h1.ext (by repeat (first | with_reducible exact Ext.refl _ | with_reducible exact hX | with_reducible exact ext_d _ _ _ _ | with_reducible exact ext_app _ _ _ _ _ | ((with_reducible refine ext_suffix ⟨_, ?_⟩); (try simp only [Array.append_assoc]); rfl) | with_reducible apply Ext.drew | with_reducible apply Ext.alloc | with_reducible apply Ext.more_))) hr1).mono ?_; rintro e w' ⟨E1, ce1, rfl, hE1, hb⟩; refine hK _ _ (fun W => ArrIn W E1 n1 ce1 (turnL R1 C1 l1)) hb (fun _ _ hx h => h.ext hx) hE1 ?_)
    try simp only [Act.put, List.setIfInBounds_toArray, List.set_cons_zero, List.set_cons_succ]
    (refine wpFp_eff rfl ?_ (fun wf hXf hE K hK => ?_); rfl; obtain ⟨osf, df, rfl⟩ := hXf.more; go_simp; refine (turn_c R2 C2 A2 n2 cap2 l2 _ (h2.ext (by repeat (first | with_reducible exact Ext.refl _ | with_reducible exact hX | with_reducible exact ext_d _ _ _ _ | with_reducible exact ext_app _ _ _ _ _ | ((with_reducible refine ext_suffix ⟨_, ?_⟩); (try simp only [Array.append_assoc]); rfl) | with_reducible apply Ext.drew | with_reducible apply Ext.alloc | with_reducible apply Ext.more_))) hr2).mono ?_; rintro e w' ⟨E2, ce2, rfl, hE2, hb⟩; refine hK _ _ (fun W => ArrIn W E1 n1 ce1 (turnL R1 C1 l1) ∧ ArrIn W E2 n2 ce2 (turnL R2 C2 l2)) hb (fun _ _ hx h => ⟨h.1.ext hx, h.2.ext hx⟩) ⟨hE.ext hb, hE2⟩ ?_)
    try simp only [Act.put, List.setIfInBounds_toArray, List.set_cons_zero, List.set_cons_succ]
    (refine wpFp_eff rfl ?_ (fun wf hXf hE K hK => ?_); rfl; obtain ⟨osf, df, rfl⟩ := hXf.more; go_simp; refine (below_c ⟨C1, R1, turnL R1 C1 l1⟩ ⟨C2, R2, turnL R2 C2 l2⟩ _ _ _ _ _ _ _ hE.1 hE.2 (turn_right hr1) (turn_right hr2) Y true (by rw [HJ.out.2.2.2]; rfl) (by rw [HJ.out.2.2.2]; rfl)).mono ?_; rintro e w' ⟨E3, m4, ce3, rfl, hE3, hDs, hb⟩; refine hK _ _ (fun W => ArrIn W E3 m4 ce3 Y.l) hb (fun _ _ hx h => h.ext hx) hE3 ?_)
    try simp only [Act.put, List.setIfInBounds_toArray, List.set_cons_zero, List.set_cons_succ]
    (refine wpFp_read (v := ?_) rfl ?_ (fun w1 h1 => ?_) ?_; rotate_left 1; rfl; (obtain ⟨os1, d1, rfl⟩ := h1.more; go_simp; first | done | rfl))
    try simp only [Act.put, List.setIfInBounds_toArray, List.set_cons_zero, List.set_cons_succ]
    (refine wpFp_read (v := ?_) rfl ?_ (fun w1 h1 => ?_) ?_; rotate_left 1; rfl; (obtain ⟨os1, d1, rfl⟩ := h1.more; go_simp; first | done | rfl))
    try simp only [Act.put, List.setIfInBounds_toArray, List.set_cons_zero, List.set_cons_succ]
    (refine wpFp_pure (v := ?_) rfl ?_ (fun w1 => ?_) ?_; rotate_left 1; rfl; (go_simp; first | done | rfl))
    try simp only [Act.put, List.setIfInBounds_toArray, List.set_cons_zero, List.set_cons_succ]
    refine wpFp_one fun osa da osb db hE => ?_
    try simp only [Act.put, List.setIfInBounds_toArray, List.set_cons_zero, List.set_cons_succ]
    (refine wpTl_op rfl ?_ (fun K hK => ?_); rfl; go_simp; refine hK _ _ ?_)
    try simp only [Act.put, List.setIfInBounds_toArray, List.set_cons_zero, List.set_cons_succ]
    (refine wpTl_op rfl ?_ (fun K hK => ?_); rfl; go_simp; refine hK _ _ ?_)
    try simp only [Act.put, List.setIfInBounds_toArray, List.set_cons_zero, List.set_cons_succ]
    refine wpTl_nil ?_
    have hY := hE.box #[.int .i64 Y.R, .int .i64 Y.C, .slice E3 m4 ce3] 25 db
    clear hE
    simp only [drew_more] at hY
    go_wp2_with fail
    refine wp_plan (S := Ext _) [(0, 0), (1, 0), (2, 0), (3, 0), (4, 0), (5, 0), (6, 0), (7, 0), (8, 0), (9, 0), (10, 1), (11, 0), (12, 0), (13, 0), (14, 0), (15, 1), (16, 0), (17, 0), (18, 0), (20, 0), (19, 1), (21, 1), (22, 0), (23, 0)] [] (by kernel_rfl) (by kernel_rfl) (by kernel_rfl) (fun _ _ d _ _ h => by cases d <;> exact h) (Ext.drew (Ext.refl _)) ?_
    (refine wpPl_read (v := ?_) rfl ?_ (fun w1 h1 => ?_) ?_; rotate_left 1; rfl; (obtain ⟨os1, d1, rfl⟩ := h1.more; go_simp; first | done | rfl))
    try simp only [Act.put, List.setIfInBounds_toArray, List.set_cons_zero, List.set_cons_succ]
    (refine wpPl_read (v := ?_) rfl ?_ (fun w1 h1 => ?_) ?_; rotate_left 1; rfl; (obtain ⟨os1, d1, rfl⟩ := h1.more; go_simp; first | done | rfl))
    try simp only [Act.put, List.setIfInBounds_toArray, List.set_cons_zero, List.set_cons_succ]
    first | (refine wpPl_skip rfl rfl ?_) | (refine wpPl_read (v := ?_) rfl ?_ (fun w1 h1 => ?_) ?_; rotate_left 1; rfl; (obtain ⟨os1, d1, rfl⟩ := h1.more; go_simp; first | done | rfl)) | (refine wpPl_gread (v := ?_) (c := ?_) rfl rfl rfl rfl ?_ (fun hc w1 h1 => ?_) ?_; rotate_left 2; (first | exact gc_t _ | exact gc_f _ | exact gc_gt _ _ | exact gc_gf _ _); (obtain ⟨os1, d1, rfl⟩ := h1.more; (try simp only [gv_of hc]); (try (have hc1 := and_l hc; (try simp only [gv_of hc1]); (try (have hc2 := and_l hc1; (try simp only [gv_of hc2]))))); go_simp; first | done | rfl))
    try simp only [Act.put, List.setIfInBounds_toArray, List.set_cons_zero, List.set_cons_succ]
    first | (refine wpPl_pick_and rfl rfl rfl rfl rfl rfl ?_) | (refine wpPl_pick_or rfl rfl rfl rfl rfl rfl ?_) | (refine wpPl_read (v := ?_) rfl ?_ (fun w1 h1 => ?_) ?_; rotate_left 1; rfl; (obtain ⟨os1, d1, rfl⟩ := h1.more; go_simp; first | done | rfl))
    try simp only [Act.put, List.setIfInBounds_toArray, List.set_cons_zero, List.set_cons_succ]
    (refine wpPl_read (v := ?_) rfl ?_ (fun w1 h1 => ?_) ?_; rotate_left 1; rfl; (obtain ⟨os1, d1, rfl⟩ := h1.more; go_simp; first | done | rfl))
    try simp only [Act.put, List.setIfInBounds_toArray, List.set_cons_zero, List.set_cons_succ]
    first | (refine wpPl_skip rfl rfl ?_) | (refine wpPl_read (v := ?_) rfl ?_ (fun w1 h1 => ?_) ?_; rotate_left 1; rfl; (obtain ⟨os1, d1, rfl⟩ := h1.more; go_simp; first | done | rfl)) | (refine wpPl_gread (v := ?_) (c := ?_) rfl rfl rfl rfl ?_ (fun hc w1 h1 => ?_) ?_; rotate_left 2; (first | exact gc_t _ | exact gc_f _ | exact gc_gt _ _ | exact gc_gf _ _); (obtain ⟨os1, d1, rfl⟩ := h1.more; (try simp only [gv_of hc]); (try (have hc1 := and_l hc; (try simp only [gv_of hc1]); (try (have hc2 := and_l hc1; (try simp only [gv_of hc2]))))); go_simp; first | done | rfl))
    try simp only [Act.put, List.setIfInBounds_toArray, List.set_cons_zero, List.set_cons_succ]
    first | (refine wpPl_pick_and rfl rfl rfl rfl rfl rfl ?_) | (refine wpPl_pick_or rfl rfl rfl rfl rfl rfl ?_) | (refine wpPl_read (v := ?_) rfl ?_ (fun w1 h1 => ?_) ?_; rotate_left 1; rfl; (obtain ⟨os1, d1, rfl⟩ := h1.more; go_simp; first | done | rfl))
    try simp only [Act.put, List.setIfInBounds_toArray, List.set_cons_zero, List.set_cons_succ]
    (refine wpPl_read (v := ?_) rfl ?_ (fun w1 h1 => ?_) ?_; rotate_left 1; rfl; (obtain ⟨os1, d1, rfl⟩ := h1.more; go_simp; first | done | rfl))
    try simp only [Act.put, List.setIfInBounds_toArray, List.set_cons_zero, List.set_cons_succ]
    first | (refine wpPl_skip rfl rfl ?_) | (refine wpPl_read (v := ?_) rfl ?_ (fun w1 h1 => ?_) ?_; rotate_left 1; rfl; (obtain ⟨os1, d1, rfl⟩ := h1.more; go_simp; first | done | rfl)) | (refine wpPl_gread (v := ?_) (c := ?_) rfl rfl rfl rfl ?_ (fun hc w1 h1 => ?_) ?_; rotate_left 2; (first | exact gc_t _ | exact gc_f _ | exact gc_gt _ _ | exact gc_gf _ _); (obtain ⟨os1, d1, rfl⟩ := h1.more; (try simp only [gv_of hc]); (try (have hc1 := and_l hc; (try simp only [gv_of hc1]); (try (have hc2 := and_l hc1; (try simp only [gv_of hc2]))))); go_simp; first | done | rfl))
    try simp only [Act.put, List.setIfInBounds_toArray, List.set_cons_zero, List.set_cons_succ]
    first | (refine wpPl_skip rfl rfl ?_) | (refine wpPl_read (v := ?_) rfl ?_ (fun w1 h1 => ?_) ?_; rotate_left 1; rfl; (obtain ⟨os1, d1, rfl⟩ := h1.more; go_simp; first | done | rfl)) | (refine wpPl_gread (v := ?_) (c := ?_) rfl rfl rfl rfl ?_ (fun hc w1 h1 => ?_) ?_; rotate_left 2; (first | exact gc_t _ | exact gc_f _ | exact gc_gt _ _ | exact gc_gf _ _); (obtain ⟨os1, d1, rfl⟩ := h1.more; (try simp only [gv_of hc]); (try (have hc1 := and_l hc; (try simp only [gv_of hc1]); (try (have hc2 := and_l hc1; (try simp only [gv_of hc2]))))); go_simp; first | done | rfl))
    try simp only [Act.put, List.setIfInBounds_toArray, List.set_cons_zero, List.set_cons_succ]
    (refine wpPl_eff rfl ?_ (fun K hK => ?_); (first | with_reducible rfl | rfl | (go_simp; done)); go_simp; refine (refSame_any _ _ _ _ _ _ _ _ _ _ l1 l1 _ (hD2.ext (by repeat (first | with_reducible exact Ext.refl _ | with_reducible exact hX | with_reducible exact ext_d _ _ _ _ | with_reducible exact ext_app _ _ _ _ _ | ((with_reducible refine ext_suffix ⟨_, ?_⟩); (try simp only [Array.append_assoc]); rfl) | with_reducible apply Ext.drew | with_reducible apply Ext.alloc | with_reducible apply Ext.more_))) (h1.ext (by repeat (first | with_reducible exact Ext.refl _ | with_reducible exact hX | with_reducible exact ext_d _ _ _ _ | with_reducible exact ext_app _ _ _ _ _ | ((with_reducible refine ext_suffix ⟨_, ?_⟩); (try simp only [Array.append_assoc]); rfl) | with_reducible apply Ext.drew | with_reducible apply Ext.alloc | with_reducible apply Ext.more_)))).mono ?_; rintro e w' ⟨rfl, hb⟩; obtain ⟨os11, d11, rfl⟩ := hb.more; clear hb; refine hK _ _ ?_ ?_; (repeat (first | with_reducible exact Ext.refl _ | with_reducible exact ext_d _ _ _ _ | with_reducible exact ext_app _ _ _ _ _ | ((with_reducible refine ext_suffix ⟨_, ?_⟩); (try simp only [Array.append_assoc]); rfl) | with_reducible apply Ext.drew | with_reducible apply Ext.alloc | with_reducible apply Ext.more_ | apply Ext.drew | apply Ext.alloc | apply Ext.more_)))
    try simp only [Act.put, List.setIfInBounds_toArray, List.set_cons_zero, List.set_cons_succ]
    first | (refine wpPl_pick_and rfl rfl rfl rfl rfl rfl ?_) | (refine wpPl_pick_or rfl rfl rfl rfl rfl rfl ?_) | (refine wpPl_read (v := ?_) rfl ?_ (fun w1 h1 => ?_) ?_; rotate_left 1; rfl; (obtain ⟨os1, d1, rfl⟩ := h1.more; go_simp; first | done | rfl))
    try simp only [Act.put, List.setIfInBounds_toArray, List.set_cons_zero, List.set_cons_succ]
    (refine wpPl_read (v := ?_) rfl ?_ (fun w1 h1 => ?_) ?_; rotate_left 1; rfl; (obtain ⟨os1, d1, rfl⟩ := h1.more; go_simp; first | done | rfl))
    try simp only [Act.put, List.setIfInBounds_toArray, List.set_cons_zero, List.set_cons_succ]
    first | (refine wpPl_skip rfl rfl ?_) | (refine wpPl_read (v := ?_) rfl ?_ (fun w1 h1 => ?_) ?_; rotate_left 1; rfl; (obtain ⟨os1, d1, rfl⟩ := h1.more; go_simp; first | done | rfl)) | (refine wpPl_gread (v := ?_) (c := ?_) rfl rfl rfl rfl ?_ (fun hc w1 h1 => ?_) ?_; rotate_left 2; (first | exact gc_t _ | exact gc_f _ | exact gc_gt _ _ | exact gc_gf _ _); (obtain ⟨os1, d1, rfl⟩ := h1.more; (try simp only [gv_of hc]); (try (have hc1 := and_l hc; (try simp only [gv_of hc1]); (try (have hc2 := and_l hc1; (try simp only [gv_of hc2]))))); go_simp; first | done | rfl))
    try simp only [Act.put, List.setIfInBounds_toArray, List.set_cons_zero, List.set_cons_succ]
    first | (refine wpPl_skip rfl rfl ?_) | (refine wpPl_read (v := ?_) rfl ?_ (fun w1 h1 => ?_) ?_; rotate_left 1; rfl; (obtain ⟨os1, d1, rfl⟩ := h1.more; go_simp; first | done | rfl)) | (refine wpPl_gread (v := ?_) (c := ?_) rfl rfl rfl rfl ?_ (fun hc w1 h1 => ?_) ?_; rotate_left 2; (first | exact gc_t _ | exact gc_f _ | exact gc_gt _ _ | exact gc_gf _ _); (obtain ⟨os1, d1, rfl⟩ := h1.more; (try simp only [gv_of hc]); (try (have hc1 := and_l hc; (try simp only [gv_of hc1]); (try (have hc2 := and_l hc1; (try simp only [gv_of hc2]))))); go_simp; first | done | rfl))
    try simp only [Act.put, List.setIfInBounds_toArray, List.set_cons_zero, List.set_cons_succ]
    (refine wpPl_eff rfl ?_ (fun K hK => ?_); (first | with_reducible rfl | rfl | (go_simp; done)); go_simp; refine (refSame_any _ _ _ _ _ _ _ _ _ _ l2 l2 _ (hD3.ext (by repeat (first | with_reducible exact Ext.refl _ | with_reducible exact hX | with_reducible exact ext_d _ _ _ _ | with_reducible exact ext_app _ _ _ _ _ | ((with_reducible refine ext_suffix ⟨_, ?_⟩); (try simp only [Array.append_assoc]); rfl) | with_reducible apply Ext.drew | with_reducible apply Ext.alloc | with_reducible apply Ext.more_))) (h2.ext (by repeat (first | with_reducible exact Ext.refl _ | with_reducible exact hX | with_reducible exact ext_d _ _ _ _ | with_reducible exact ext_app _ _ _ _ _ | ((with_reducible refine ext_suffix ⟨_, ?_⟩); (try simp only [Array.append_assoc]); rfl) | with_reducible apply Ext.drew | with_reducible apply Ext.alloc | with_reducible apply Ext.more_)))).mono ?_; rintro e w' ⟨rfl, hb⟩; obtain ⟨os12, d12, rfl⟩ := hb.more; clear hb; refine hK _ _ ?_ ?_; (repeat (first | with_reducible exact Ext.refl _ | with_reducible exact ext_d _ _ _ _ | with_reducible exact ext_app _ _ _ _ _ | ((with_reducible refine ext_suffix ⟨_, ?_⟩); (try simp only [Array.append_assoc]); rfl) | with_reducible apply Ext.drew | with_reducible apply Ext.alloc | with_reducible apply Ext.more_ | apply Ext.drew | apply Ext.alloc | apply Ext.more_)))
    try simp only [Act.put, List.setIfInBounds_toArray, List.set_cons_zero, List.set_cons_succ]
    first | (refine wpPl_pick_and rfl rfl rfl rfl rfl rfl ?_) | (refine wpPl_pick_or rfl rfl rfl rfl rfl rfl ?_) | (refine wpPl_read (v := ?_) rfl ?_ (fun w1 h1 => ?_) ?_; rotate_left 1; rfl; (obtain ⟨os1, d1, rfl⟩ := h1.more; go_simp; first | done | rfl))
    try simp only [Act.put, List.setIfInBounds_toArray, List.set_cons_zero, List.set_cons_succ]
    (refine wpPl_read (v := ?_) rfl ?_ (fun w1 h1 => ?_) ?_; rotate_left 1; rfl; (obtain ⟨os1, d1, rfl⟩ := h1.more; go_simp; first | done | rfl))
    try simp only [Act.put, List.setIfInBounds_toArray, List.set_cons_zero, List.set_cons_succ]
    first | (refine wpPl_skip rfl rfl ?_) | (refine wpPl_read (v := ?_) rfl ?_ (fun w1 h1 => ?_) ?_; rotate_left 1; rfl; (obtain ⟨os1, d1, rfl⟩ := h1.more; go_simp; first | done | rfl)) | (refine wpPl_gread (v := ?_) (c := ?_) rfl rfl rfl rfl ?_ (fun hc w1 h1 => ?_) ?_; rotate_left 2; (first | exact gc_t _ | exact gc_f _ | exact gc_gt _ _ | exact gc_gf _ _); (obtain ⟨os1, d1, rfl⟩ := h1.more; (try simp only [gv_of hc]); (try (have hc1 := and_l hc; (try simp only [gv_of hc1]); (try (have hc2 := and_l hc1; (try simp only [gv_of hc2]))))); go_simp; first | done | rfl))
    try simp only [Act.put, List.setIfInBounds_toArray, List.set_cons_zero, List.set_cons_succ]
    first | (refine wpPl_skip rfl rfl ?_) | (refine wpPl_read (v := ?_) rfl ?_ (fun w1 h1 => ?_) ?_; rotate_left 1; rfl; (obtain ⟨os1, d1, rfl⟩ := h1.more; go_simp; first | done | rfl)) | (refine wpPl_gread (v := ?_) (c := ?_) rfl rfl rfl rfl ?_ (fun hc w1 h1 => ?_) ?_; rotate_left 2; (first | exact gc_t _ | exact gc_f _ | exact gc_gt _ _ | exact gc_gf _ _); (obtain ⟨os1, d1, rfl⟩ := h1.more; (try simp only [gv_of hc]); (try (have hc1 := and_l hc; (try simp only [gv_of hc1]); (try (have hc2 := and_l hc1; (try simp only [gv_of hc2]))))); go_simp; first | done | rfl))
    try simp only [Act.put, List.setIfInBounds_toArray, List.set_cons_zero, List.set_cons_succ]
    (refine wpPl_eff rfl ?_ (fun K hK => ?_); (first | with_reducible rfl | rfl | (go_simp; done)); go_simp; refine (turn_c Y.R Y.C E3 m4 ce3 Y.l _ (hY.ext (by repeat (first | with_reducible exact Ext.refl _ | with_reducible exact hX | with_reducible exact ext_d _ _ _ _ | with_reducible exact ext_app _ _ _ _ _ | ((with_reducible refine ext_suffix ⟨_, ?_⟩); (try simp only [Array.append_assoc]); rfl) | with_reducible apply Ext.drew | with_reducible apply Ext.alloc | with_reducible apply Ext.more_))) hrY).mono ?_; rintro e w' ⟨F1, cf1, rfl, hF1, hb⟩; obtain ⟨os13, d13, rfl⟩ := hb.more; clear hb; (try simp only [more_more, Array.append_assoc] at hF1); refine hK _ _ ?_ ?_; (repeat (first | with_reducible exact Ext.refl _ | with_reducible exact ext_d _ _ _ _ | with_reducible exact ext_app _ _ _ _ _ | ((with_reducible refine ext_suffix ⟨_, ?_⟩); (try simp only [Array.append_assoc]); rfl) | with_reducible apply Ext.drew | with_reducible apply Ext.alloc | with_reducible apply Ext.more_ | apply Ext.drew | apply Ext.alloc | apply Ext.more_)))
    try simp only [Act.put, List.setIfInBounds_toArray, List.set_cons_zero, List.set_cons_succ]
    (refine wpPl_eff rfl ?_ (fun K hK => ?_); (first | with_reducible rfl | rfl | (go_simp; done)); go_simp; refine (refSame_any _ _ _ _ _ _ _ _ _ _ (turnL Y.R Y.C Y.l) X.l _ (hF1.ext (by repeat (first | with_reducible exact Ext.refl _ | with_reducible exact hX | with_reducible exact ext_d _ _ _ _ | with_reducible exact ext_app _ _ _ _ _ | ((with_reducible refine ext_suffix ⟨_, ?_⟩); (try simp only [Array.append_assoc]); rfl) | with_reducible apply Ext.drew | with_reducible apply Ext.alloc | with_reducible apply Ext.more_))) (hD.ext (by repeat (first | with_reducible exact Ext.refl _ | with_reducible exact hX | with_reducible exact ext_d _ _ _ _ | with_reducible exact ext_app _ _ _ _ _ | ((with_reducible refine ext_suffix ⟨_, ?_⟩); (try simp only [Array.append_assoc]); rfl) | with_reducible apply Ext.drew | with_reducible apply Ext.alloc | with_reducible apply Ext.more_)))).mono ?_; rintro e w' ⟨rfl, hb⟩; obtain ⟨os14, d14, rfl⟩ := hb.more; clear hb; refine hK _ _ ?_ ?_; (repeat (first | with_reducible exact Ext.refl _ | with_reducible exact ext_d _ _ _ _ | with_reducible exact ext_app _ _ _ _ _ | ((with_reducible refine ext_suffix ⟨_, ?_⟩); (try simp only [Array.append_assoc]); rfl) | with_reducible apply Ext.drew | with_reducible apply Ext.alloc | with_reducible apply Ext.more_ | apply Ext.drew | apply Ext.alloc | apply Ext.more_)))
    try simp only [Act.put, List.setIfInBounds_toArray, List.set_cons_zero, List.set_cons_succ]
    first | (refine wpPl_pick_and rfl rfl rfl rfl rfl rfl ?_) | (refine wpPl_pick_or rfl rfl rfl rfl rfl rfl ?_) | (refine wpPl_read (v := ?_) rfl ?_ (fun w1 h1 => ?_) ?_; rotate_left 1; rfl; (obtain ⟨os1, d1, rfl⟩ := h1.more; go_simp; first | done | rfl))
    try simp only [Act.put, List.setIfInBounds_toArray, List.set_cons_zero, List.set_cons_succ]
    (refine wpPl_read (v := ?_) rfl ?_ (fun w1 h1 => ?_) ?_; rotate_left 1; rfl; (obtain ⟨os1, d1, rfl⟩ := h1.more; go_simp; first | done | rfl))
    try simp only [Act.put, List.setIfInBounds_toArray, List.set_cons_zero, List.set_cons_succ]
    refine wpPl_nil ?_
    go_wp2
    go_ret
    exact ⟨rfl, by repeat (first | with_reducible exact Ext.refl _ | with_reducible exact hX | with_reducible exact ext_d _ _ _ _ | with_reducible exact ext_app _ _ _ _ _ | ((with_reducible refine ext_suffix ⟨_, ?_⟩); (try simp only [Array.append_assoc]); rfl) | with_reducible apply Ext.drew | with_reducible apply Ext.alloc | with_reducible apply Ext.more_)⟩
  · have hj : besideO ⟨R1, C1, l1⟩ ⟨R2, C2, l2⟩ = none := by simp [besideO, hf]
    have HJ := Lib.hid hj
    have HF := Lib.hid hf
    clear hj hf
    refine (beside_c ⟨R1, C1, l1⟩ ⟨R2, C2, l2⟩ _ _ _ _ _ _ _ (h1.ext (by repeat (first | with_reducible exact Ext.refl _ | with_reducible exact hX | with_reducible exact ext_d _ _ _ _ | with_reducible exact ext_app _ _ _ _ _ | ((with_reducible refine ext_suffix ⟨_, ?_⟩); (try simp only [Array.append_assoc]); rfl) | with_reducible apply Ext.drew | with_reducible apply Ext.alloc | with_reducible apply Ext.more_))) (h2.ext (by repeat (first | with_reducible exact Ext.refl _ | with_reducible exact hX | with_reducible exact ext_d _ _ _ _ | with_reducible exact ext_app _ _ _ _ _ | ((with_reducible refine ext_suffix ⟨_, ?_⟩); (try simp only [Array.append_assoc]); rfl) | with_reducible apply Ext.drew | with_reducible apply Ext.alloc | with_reducible apply Ext.more_))) hr1 hr2 ⟨0, 0, []⟩ false (by rw [HJ.out]; rfl) (by rw [HJ.out]; rfl)).mono ?_
    rintro e w' ⟨D, m, c, rfl, hD, hDs, hb⟩
    obtain ⟨os6, d6, rfl⟩ := hb.more
    clear hb hDs hD
    go_upto_region 7 with (fail)
    refine wp_region_lit ?_
    (refine wpL_read (v := ?_) rfl ?_ ?_; rotate_left 1; (go_simp; first | done | rfl))
    try simp only [Act.put, List.setIfInBounds_toArray, List.set_cons_zero, List.set_cons_succ]
    (refine wpL_read (v := ?_) rfl ?_ ?_; rotate_left 1; (go_simp; first | done | rfl))
    try simp only [Act.put, List.setIfInBounds_toArray, List.set_cons_zero, List.set_cons_succ]
    (refine wpL_read (v := ?_) rfl ?_ ?_; rotate_left 1; (go_simp; first | done | rfl))
    try simp only [Act.put, List.setIfInBounds_toArray, List.set_cons_zero, List.set_cons_succ]
    (refine wpL_read (v := ?_) rfl ?_ ?_; rotate_left 1; (go_simp; first | done | rfl))
    try simp only [Act.put, List.setIfInBounds_toArray, List.set_cons_zero, List.set_cons_succ]
    (refine wpL_read (v := ?_) rfl ?_ ?_; rotate_left 1; (go_simp; first | done | rfl))
    try simp only [Act.put, List.setIfInBounds_toArray, List.set_cons_zero, List.set_cons_succ]
    (refine wpL_read (v := ?_) rfl ?_ ?_; rotate_left 1; (go_simp; first | done | rfl))
    try simp only [Act.put, List.setIfInBounds_toArray, List.set_cons_zero, List.set_cons_succ]
    (refine wpL_read (v := ?_) rfl ?_ ?_; rotate_left 1; (go_simp; first | done | rfl))
    try simp only [Act.put, List.setIfInBounds_toArray, List.set_cons_zero, List.set_cons_succ]
    (refine wpL_read (v := ?_) rfl ?_ ?_; rotate_left 1; (go_simp; first | done | rfl))
    try simp only [Act.put, List.setIfInBounds_toArray, List.set_cons_zero, List.set_cons_succ]
    (refine wpL_read (v := ?_) rfl ?_ ?_; rotate_left 1; (go_simp; first | done | rfl))
    try simp only [Act.put, List.setIfInBounds_toArray, List.set_cons_zero, List.set_cons_succ]
    (refine wpL_read (v := ?_) rfl ?_ ?_; rotate_left 1; (go_simp; first | done | rfl))
    try simp only [Act.put, List.setIfInBounds_toArray, List.set_cons_zero, List.set_cons_succ]
    (refine wpL_gread (v := ?_) (c := ?_) rfl rfl rfl ?_ (fun hc => ?_) ?_; rotate_left 2; (first | exact gc_t _ | exact gc_f _ | exact gc_gt _ _ | exact gc_gf _ _); ((try simp only [gv_of hc]); (try (have hc1 := and_l hc; (try simp only [gv_of hc1]); (try (have hc2 := and_l hc1; (try simp only [gv_of hc2]))))); go_simp; first | done | rfl))
    try simp only [Act.put, List.setIfInBounds_toArray, List.set_cons_zero, List.set_cons_succ]
    (refine wpL_gread (v := ?_) (c := ?_) rfl rfl rfl ?_ (fun hc => ?_) ?_; rotate_left 2; (first | exact gc_t _ | exact gc_f _ | exact gc_gt _ _ | exact gc_gf _ _); ((try simp only [gv_of hc]); (try (have hc1 := and_l hc; (try simp only [gv_of hc1]); (try (have hc2 := and_l hc1; (try simp only [gv_of hc2]))))); go_simp; first | done | rfl))
    try simp only [Act.put, List.setIfInBounds_toArray, List.set_cons_zero, List.set_cons_succ]
    (refine wpL_gread (v := ?_) (c := ?_) rfl rfl rfl ?_ (fun hc => ?_) ?_; rotate_left 2; (first | exact gc_t _ | exact gc_f _ | exact gc_gt _ _ | exact gc_gf _ _); ((try simp only [gv_of hc]); (try (have hc1 := and_l hc; (try simp only [gv_of hc1]); (try (have hc2 := and_l hc1; (try simp only [gv_of hc2]))))); go_simp; first | done | rfl))
    try simp only [Act.put, List.setIfInBounds_toArray, List.set_cons_zero, List.set_cons_succ]
    (refine wpL_gread (v := ?_) (c := ?_) rfl rfl rfl ?_ (fun hc => ?_) ?_; rotate_left 2; (first | exact gc_t _ | exact gc_f _ | exact gc_gt _ _ | exact gc_gf _ _); ((try simp only [gv_of hc]); (try (have hc1 := and_l hc; (try simp only [gv_of hc1]); (try (have hc2 := and_l hc1; (try simp only [gv_of hc2]))))); go_simp; first | done | rfl))
    try simp only [Act.put, List.setIfInBounds_toArray, List.set_cons_zero, List.set_cons_succ]
    (refine wpL_gread (v := ?_) (c := ?_) rfl rfl rfl ?_ (fun hc => ?_) ?_; rotate_left 2; (first | exact gc_t _ | exact gc_f _ | exact gc_gt _ _ | exact gc_gf _ _); ((try simp only [gv_of hc]); (try (have hc1 := and_l hc; (try simp only [gv_of hc1]); (try (have hc2 := and_l hc1; (try simp only [gv_of hc2]))))); go_simp; first | done | rfl))
    try simp only [Act.put, List.setIfInBounds_toArray, List.set_cons_zero, List.set_cons_succ]
    (refine wpL_gread (v := ?_) (c := ?_) rfl rfl rfl ?_ (fun hc => ?_) ?_; rotate_left 2; (first | exact gc_t _ | exact gc_f _ | exact gc_gt _ _ | exact gc_gf _ _); ((try simp only [gv_of hc]); (try (have hc1 := and_l hc; (try simp only [gv_of hc1]); (try (have hc2 := and_l hc1; (try simp only [gv_of hc2]))))); go_simp; first | done | rfl))
    try simp only [Act.put, List.setIfInBounds_toArray, List.set_cons_zero, List.set_cons_succ]
    (refine wpL_gread (v := ?_) (c := ?_) rfl rfl rfl ?_ (fun hc => ?_) ?_; rotate_left 2; (first | exact gc_t _ | exact gc_f _ | exact gc_gt _ _ | exact gc_gf _ _); ((try simp only [gv_of hc]); (try (have hc1 := and_l hc; (try simp only [gv_of hc1]); (try (have hc2 := and_l hc1; (try simp only [gv_of hc2]))))); go_simp; first | done | rfl))
    try simp only [Act.put, List.setIfInBounds_toArray, List.set_cons_zero, List.set_cons_succ]
    (refine wpL_gread (v := ?_) (c := ?_) rfl rfl rfl ?_ (fun hc => ?_) ?_; rotate_left 2; (first | exact gc_t _ | exact gc_f _ | exact gc_gt _ _ | exact gc_gf _ _); ((try simp only [gv_of hc]); (try (have hc1 := and_l hc; (try simp only [gv_of hc1]); (try (have hc2 := and_l hc1; (try simp only [gv_of hc2]))))); go_simp; first | done | rfl))
    try simp only [Act.put, List.setIfInBounds_toArray, List.set_cons_zero, List.set_cons_succ]
    (refine wpL_gread (v := ?_) (c := ?_) rfl rfl rfl ?_ (fun hc => ?_) ?_; rotate_left 2; (first | exact gc_t _ | exact gc_f _ | exact gc_gt _ _ | exact gc_gf _ _); ((try simp only [gv_of hc]); (try (have hc1 := and_l hc; (try simp only [gv_of hc1]); (try (have hc2 := and_l hc1; (try simp only [gv_of hc2]))))); go_simp; first | done | rfl))
    try simp only [Act.put, List.setIfInBounds_toArray, List.set_cons_zero, List.set_cons_succ]
    first | (refine wpL_pick_and rfl rfl rfl rfl rfl ?_) | (refine wpL_pick_or rfl rfl rfl rfl rfl ?_)
    try simp only [Act.put, List.setIfInBounds_toArray, List.set_cons_zero, List.set_cons_succ]
    (refine wpL_read (v := ?_) rfl ?_ ?_; rotate_left 1; (go_simp; first | done | rfl))
    try simp only [Act.put, List.setIfInBounds_toArray, List.set_cons_zero, List.set_cons_succ]
    refine wpList_nil ?_
    try go_simp
    go_wp2
    go_ret
    obtain ⟨a1, a2, a3, a4, a5, a6⟩ := right_bd hr1
    obtain ⟨b1, b2, b3, b4, b5, b6⟩ := right_bd hr2
    exact ⟨ret_bool (parts_none a5 b5 a6 b6 HF.out), by repeat (first | with_reducible exact Ext.refl _ | with_reducible exact hX | with_reducible exact ext_d _ _ _ _ | with_reducible exact ext_app _ _ _ _ _ | ((with_reducible refine ext_suffix ⟨_, ?_⟩); (try simp only [Array.append_assoc]); rfl) | with_reducible apply Ext.drew | with_reducible apply Ext.alloc | with_reducible apply Ext.more_)⟩
end Go.Proofs.Ytdhdphgecoplbaa
