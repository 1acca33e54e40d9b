/- The law ShapeMakes: its walk. -/
import Derived.Test.YtdhdphgecoplbaaAwake
namespace Go.Proofs.Ytdhdphgecoplbaa
open Go.RowKit
theorem ext_app (w : World) (os os' : Array Obj) (d d' : Nat) : Ext (more w os d) (more w (os ++ os') d') := by
  rw [← more_more w os os' d d']; exact ext_more _ _ _
theorem ext_app2 (w : World) (os os' os'' : Array Obj) (d d' : Nat) : Ext (more w (os ++ os') d) (more w (os ++ (os' ++ os'')) d') := by
  rw [← Array.append_assoc]; exact ext_app _ _ _ _ _
theorem ArrIn.none_ (w : World) : ArrIn w none 0 0 [] := ⟨SlV.nil _ _ _, rfl, Nat.le_refl _, by omega, by simp⟩

theorem bad9_ok : bad9.ok := ⟨⟨by simp [bad9], by simp [bad9]⟩, ⟨by simp [bad9], by simp [bad9]⟩, ⟨by simp [bad9], by simp [bad9]⟩, by simp [bad9, ByteArray.size], ⟨by simp [bad9], by simp [bad9]⟩⟩
theorem oneV_ok {x : Val} (h : x.ok) : ∀ y ∈ [oneV x], y.ok := by
  intro y hy
  obtain rfl : y = oneV x := by simpa using hy
  unfold oneV; split
  · exact h
  · exact bad9_ok
theorem refOneV_ok {x : Val} (h : x.ok) : ∀ y ∈ [refOneV x], y.ok := by
  intro y hy
  obtain rfl : y = refOneV x := by simpa using hy
  unfold refOneV; split
  · exact h
  · exact bad9_ok
set_option maxHeartbeats 1000000 in
theorem makes_yes (r c : Int) (A : Option Addr) (n cap : Nat) (l : List Val) (w : World) (h : ArrIn w A n cap l) (hr : rightA r c l = true) :
    Calls Try.prog 3 #[.int .i64 r, .int .i64 c, .slice A n cap] w fun e w' => e = .returned (.bool true) ∧ Ext w w' := by
  have hrr : refRightA r c l = true := by rw [← rightA_eq r c l h.ok]; exact hr
  have hss : sameA r c l r c l = true := by simp [sameA]
  go_enter Try.func3, Try.ntmps3
  go_wp2_with fail
  refine (awake_any _).mono ?_; rintro e w' ⟨rfl, hb⟩; obtain ⟨os1, d1, rfl⟩ := hb.more; clear hb
  go_wp2_with fail
  refine (small_any _ _ _ _ _ _ _ (h.ext (by repeat (first | exact Ext.refl _ | exact ext_app _ _ _ _ _ | exact ext_app2 _ _ _ _ _ _ | apply Ext.drew | apply Ext.alloc | apply Ext.more_)))).mono ?_; rintro e w' ⟨sm, rfl, hsm, hb⟩; obtain ⟨os2, d2, rfl⟩ := hb.more
  clear hb
  rcases hsm with rfl | ⟨rfl, hn300, htx⟩
  · go_wp2
    go_ret
    exact ⟨rfl, by repeat (first | exact Ext.refl _ | exact ext_app _ _ _ _ _ | exact ext_app2 _ _ _ _ _ _ | apply Ext.drew | apply Ext.alloc | apply Ext.more_)⟩
  clear htx
  go_wp2_with fail
  refine (make_yes r c A n cap l _ (h.ext (by repeat (first | exact Ext.refl _ | exact ext_app _ _ _ _ _ | exact ext_app2 _ _ _ _ _ _ | apply Ext.drew | apply Ext.alloc | apply Ext.more_))) hr).mono ?_
  rintro e w' ⟨B, c', rfl, hs, hc, hb⟩
  obtain ⟨os3, d3, rfl⟩ := hb.more
  clear hb
  have hB : ArrIn _ B n c' l := ⟨Rd.mono hs (Nat.zero_le _), h.len, hc, h.small, h.ok⟩
  clear hs
  rw [more_more] at hB
  go_wp2_with fail
  refine (refRightA_any _ _ _ _ _ _ _ (h.ext (by repeat (first | exact Ext.refl _ | exact ext_app _ _ _ _ _ | exact ext_app2 _ _ _ _ _ _ | apply Ext.drew | apply Ext.alloc | apply Ext.more_)))).mono ?_; rintro e w' ⟨rfl, hb⟩; obtain ⟨os4, d4, rfl⟩ := hb.more; clear hb
  go_wp2_with fail
  refine (right_any _ _ _ _ _ _ _ (h.ext (by repeat (first | exact Ext.refl _ | exact ext_app _ _ _ _ _ | exact ext_app2 _ _ _ _ _ _ | apply Ext.drew | apply Ext.alloc | apply Ext.more_)))).mono ?_; rintro e w' ⟨rfl, hb⟩; obtain ⟨os5, d5, rfl⟩ := hb.more; clear hb
  go_wp2_with fail
  refine (refSame_any _ _ _ _ _ _ _ _ _ _ _ _ _ (hB.ext (by repeat (first | exact Ext.refl _ | exact ext_app _ _ _ _ _ | exact ext_app2 _ _ _ _ _ _ | apply Ext.drew | apply Ext.alloc | apply Ext.more_))) (h.ext (by repeat (first | exact Ext.refl _ | exact ext_app _ _ _ _ _ | exact ext_app2 _ _ _ _ _ _ | apply Ext.drew | apply Ext.alloc | apply Ext.more_)))).mono ?_; rintro e w' ⟨rfl, hb⟩; obtain ⟨os6, d6, rfl⟩ := hb.more; clear hb
  go_wp2_with fail
  go_loopw [61] (fun i wr => ∃ k : Nat, k ≤ n ∧ i = .int .i64 k ∧ Ext w wr ∧ ABox (w.heap.size + os1.size) r c A n cap wr ∧ ABox (w.heap.size + os1.size + 1 + (os2.size + os3.size)) r c B n c' wr ∧ ArrIn wr B n c' l) (fun i _ => n - (intOf i).toNat)
  case atStart => exact ⟨0, Nat.zero_le _, rfl, by repeat (first | exact Ext.refl _ | exact ext_app _ _ _ _ _ | exact ext_app2 _ _ _ _ _ _ | apply Ext.drew | apply Ext.alloc | apply Ext.more_), by refine ⟨?_, ?_, ?_, ?_⟩ <;> simp [go_sem], by refine ⟨?_, ?_, ?_, ?_⟩ <;> simp [go_sem], hB.ext (by repeat (first | exact Ext.refl _ | exact ext_app _ _ _ _ _ | exact ext_app2 _ _ _ _ _ _ | apply Ext.drew | apply Ext.alloc | apply Ext.more_))⟩
  case round =>
    clear hB
    obtain ⟨k, hk, rfl, hX, hb1, hb2, hB⟩ := hrel
    by_cases hlt : k < n
    · obtain ⟨x, b, off, hx, hxo, rfl, hv⟩ := h.at hlt
      obtain ⟨v0, v1, v2, v3, v4, v5⟩ := hv.ext hX
      have hbl : b < wr.heap.size := lt_of_cell v0
      have hso : sameA 1 1 [oneV x] 1 1 [refOneV x] = true := by simp [sameA, oneV, refOneV, right_eq x hxo]
      go_wp2
      refine wp_plan (S := Ext _) [(0, 0), (2, 0), (1, 1), (3, 1), (4, 1), (5, 0)] [] (by kernel_rfl) (by kernel_rfl) (by kernel_rfl) (fun _ _ d _ _ h => by cases d <;> exact h) (Ext.drew (Ext.refl _)) ?_
      (refine wpPl_read (v := ?_) rfl ?_ (fun w1 h1 => ?_) ?_; rotate_left 1; rfl; (obtain ⟨os1, d1, rfl⟩ := h1.more; go_simp; first | done | rfl))
      try simp only [Act.put, List.setIfInBounds_toArray, List.set_cons_zero, List.set_cons_succ]
      (refine wpPl_read (v := ?_) rfl ?_ (fun w1 h1 => ?_) ?_; rotate_left 1; rfl; (obtain ⟨os1, d1, rfl⟩ := h1.more; go_simp; first | done | rfl))
      try simp only [Act.put, List.setIfInBounds_toArray, List.set_cons_zero, List.set_cons_succ]
      (refine wpPl_eff rfl ?_ (fun K hK => ?_); rfl; go_simp; refine (one_any _ _ _ _ _ _ _ hxo.2.1 hxo.2.2.2.1).mono ?_; rintro e w' ⟨⟨A1, c1, rfl, hs, hc1⟩, hb⟩; obtain ⟨os10, d10, rfl⟩ := hb.more; have hA1 : ArrIn _ A1 1 c1 [oneV x] := ⟨Rd.mono hs (Nat.zero_le _), rfl, hc1, (by omega), oneV_ok hxo⟩; clear hs hb; (try simp only [drew_more] at hA1); (try simp only [more_more] at hA1); refine hK _ _ ?_ ?_; (repeat (first | exact Ext.refl _ | apply Ext.drew | apply Ext.alloc | apply Ext.more_)))
      try simp only [Act.put, List.setIfInBounds_toArray, List.set_cons_zero, List.set_cons_succ]
      (refine wpPl_eff rfl ?_ (fun K hK => ?_); rfl; go_simp; refine (refOne_any _ _ _ _ _ _ _ hxo.2.1 hxo.2.2.2.1).mono ?_; rintro e w' ⟨⟨A2, c2, rfl, hs, hc2⟩, hb⟩; obtain ⟨os20, d20, rfl⟩ := hb.more; have hA2 : ArrIn _ A2 1 c2 [refOneV x] := ⟨Rd.mono hs (Nat.zero_le _), rfl, hc2, (by omega), refOneV_ok hxo⟩; clear hs hb; (try simp only [drew_more] at hA2); (try simp only [more_more] at hA2); refine hK _ _ ?_ ?_; (repeat (first | exact Ext.refl _ | apply Ext.drew | apply Ext.alloc | apply Ext.more_)))
      try simp only [Act.put, List.setIfInBounds_toArray, List.set_cons_zero, List.set_cons_succ]
      (refine wpPl_eff rfl ?_ (fun K hK => ?_); rfl; go_simp; refine (refSame_any 1 1 1 1 A1 A2 1 c1 1 c2 [oneV x] [refOneV x] _ (hA1.ext (by repeat (first | exact Ext.refl _ | exact ext_app _ _ _ _ _ | exact ext_app2 _ _ _ _ _ _ | apply Ext.drew | apply Ext.alloc | apply Ext.more_))) (hA2.ext (by repeat (first | exact Ext.refl _ | exact ext_app _ _ _ _ _ | exact ext_app2 _ _ _ _ _ _ | apply Ext.drew | apply Ext.alloc | apply Ext.more_)))).mono ?_; rintro e w' ⟨rfl, hb⟩; obtain ⟨os, d, rfl⟩ := hb.more; refine hK _ _ ?_ ?_; (repeat (first | exact Ext.refl _ | apply Ext.drew | apply Ext.alloc | apply Ext.more_)))
      try simp only [Act.put, List.setIfInBounds_toArray, List.set_cons_zero, List.set_cons_succ]
      (refine wpPl_read (v := ?_) rfl ?_ (fun w1 h1 => ?_) ?_; rotate_left 1; rfl; (obtain ⟨os1, d1, rfl⟩ := h1.more; go_simp; first | done | rfl))
      try simp only [Act.put, List.setIfInBounds_toArray, List.set_cons_zero, List.set_cons_succ]
      refine wpPl_nil ?_
      go_wp2
      have hxx : Ext w (wr.alloc (.cells #[.int .i64 x.kind, .int .i64 x.mant, .int .i64 x.exp, .string x.text, .bool x.truth, .int .i64 x.fault] 34)) := hX.trans ((Ext.refl _).alloc _)
      exact ⟨⟨k + 1, by omega, by go_num, hxx.more_ _ _, hb1.ext (by repeat (first | exact Ext.refl _ | exact ext_app _ _ _ _ _ | exact ext_app2 _ _ _ _ _ _ | apply Ext.drew | apply Ext.alloc | apply Ext.more_)), hb2.ext (by repeat (first | exact Ext.refl _ | exact ext_app _ _ _ _ _ | exact ext_app2 _ _ _ _ _ _ | apply Ext.drew | apply Ext.alloc | apply Ext.more_)), hB.ext (by repeat (first | exact Ext.refl _ | exact ext_app _ _ _ _ _ | exact ext_app2 _ _ _ _ _ _ | apply Ext.drew | apply Ext.alloc | apply Ext.more_))⟩, by simp [intOf]; omega⟩
    · obtain ⟨p0, p1, p2, p3⟩ := hb1
      obtain ⟨q0, q1, q2, q3⟩ := hb2
      have hA := h.ext hX
      go_wp2
      refine wp_plan (S := Ext _) [(0, 0), (1, 0), (3, 0), (4, 0), (2, 1), (5, 1), (6, 0), (7, 0), (8, 0), (10, 0), (9, 1), (11, 0), (12, 0), (13, 0)] [] (by kernel_rfl) (by kernel_rfl) (by kernel_rfl) (fun _ _ d _ _ h => by cases d <;> exact h) (Ext.drew (Ext.refl _)) ?_
      (refine wpPl_read (v := ?_) rfl ?_ (fun w1 h1 => ?_) ?_; rotate_left 1; rfl; (obtain ⟨os1, d1, rfl⟩ := h1.more; go_simp; first | done | rfl))
      try simp only [Act.put, List.setIfInBounds_toArray, List.set_cons_zero, List.set_cons_succ]
      (refine wpPl_read (v := ?_) rfl ?_ (fun w1 h1 => ?_) ?_; rotate_left 1; rfl; (obtain ⟨os1, d1, rfl⟩ := h1.more; go_simp; first | done | rfl))
      try simp only [Act.put, List.setIfInBounds_toArray, List.set_cons_zero, List.set_cons_succ]
      (refine wpPl_read (v := ?_) rfl ?_ (fun w1 h1 => ?_) ?_; rotate_left 1; rfl; (obtain ⟨os1, d1, rfl⟩ := h1.more; go_simp; first | done | rfl))
      try simp only [Act.put, List.setIfInBounds_toArray, List.set_cons_zero, List.set_cons_succ]
      (refine wpPl_read (v := ?_) rfl ?_ (fun w1 h1 => ?_) ?_; rotate_left 1; rfl; (obtain ⟨os1, d1, rfl⟩ := h1.more; go_simp; first | done | rfl))
      try simp only [Act.put, List.setIfInBounds_toArray, List.set_cons_zero, List.set_cons_succ]
      (refine wpPl_eff rfl ?_ (fun K hK => ?_); rfl; go_simp; refine (sameA_any _ _ _ _ _ _ _ _ _ _ _ _ _ (hA.ext (by repeat (first | exact Ext.refl _ | exact ext_app _ _ _ _ _ | exact ext_app2 _ _ _ _ _ _ | apply Ext.drew | apply Ext.alloc | apply Ext.more_))) (hA.ext (by repeat (first | exact Ext.refl _ | exact ext_app _ _ _ _ _ | exact ext_app2 _ _ _ _ _ _ | apply Ext.drew | apply Ext.alloc | apply Ext.more_)))).mono ?_; rintro e w' ⟨rfl, hb⟩; obtain ⟨os7, d7, rfl⟩ := hb.more; clear hb; refine hK _ _ ?_ ?_; (repeat (first | exact Ext.refl _ | apply Ext.drew | apply Ext.alloc | apply Ext.more_)))
      try simp only [Act.put, List.setIfInBounds_toArray, List.set_cons_zero, List.set_cons_succ]
      (refine wpPl_eff rfl ?_ (fun K hK => ?_); rfl; go_simp; refine (refSame_any _ _ _ _ _ _ _ _ _ _ _ _ _ (hA.ext (by repeat (first | exact Ext.refl _ | exact ext_app _ _ _ _ _ | exact ext_app2 _ _ _ _ _ _ | apply Ext.drew | apply Ext.alloc | apply Ext.more_))) (hA.ext (by repeat (first | exact Ext.refl _ | exact ext_app _ _ _ _ _ | exact ext_app2 _ _ _ _ _ _ | apply Ext.drew | apply Ext.alloc | apply Ext.more_)))).mono ?_; rintro e w' ⟨rfl, hb⟩; obtain ⟨os8, d8, rfl⟩ := hb.more; clear hb; refine hK _ _ ?_ ?_; (repeat (first | exact Ext.refl _ | apply Ext.drew | apply Ext.alloc | apply Ext.more_)))
      try simp only [Act.put, List.setIfInBounds_toArray, List.set_cons_zero, List.set_cons_succ]
      (refine wpPl_read (v := ?_) rfl ?_ (fun w1 h1 => ?_) ?_; rotate_left 1; rfl; (obtain ⟨os1, d1, rfl⟩ := h1.more; go_simp; first | done | rfl))
      try simp only [Act.put, List.setIfInBounds_toArray, List.set_cons_zero, List.set_cons_succ]
      (refine wpPl_read (v := ?_) rfl ?_ (fun w1 h1 => ?_) ?_; rotate_left 1; rfl; (obtain ⟨os1, d1, rfl⟩ := h1.more; go_simp; first | done | rfl))
      try simp only [Act.put, List.setIfInBounds_toArray, List.set_cons_zero, List.set_cons_succ]
      first | (refine wpPl_skip rfl rfl ?_) | (refine wpPl_read (v := ?_) rfl ?_ (fun w1 h1 => ?_) ?_; rotate_left 1; rfl; (obtain ⟨os1, d1, rfl⟩ := h1.more; go_simp; first | done | rfl)) | (refine wpPl_gread (v := ?_) (c := ?_) rfl rfl rfl rfl ?_ (fun hc w1 h1 => ?_) ?_; rotate_left 2; (first | exact gc_t _ | exact gc_f _ | exact gc_gt _ _ | exact gc_gf _ _); (obtain ⟨os1, d1, rfl⟩ := h1.more; (try simp only [gv_of hc]); (try (have hc1 := and_l hc; (try simp only [gv_of hc1]); (try (have hc2 := and_l hc1; (try simp only [gv_of hc2]))))); go_simp; first | done | rfl))
      try simp only [Act.put, List.setIfInBounds_toArray, List.set_cons_zero, List.set_cons_succ]
      first | (refine wpPl_skip rfl rfl ?_) | (refine wpPl_read (v := ?_) rfl ?_ (fun w1 h1 => ?_) ?_; rotate_left 1; rfl; (obtain ⟨os1, d1, rfl⟩ := h1.more; go_simp; first | done | rfl)) | (refine wpPl_gread (v := ?_) (c := ?_) rfl rfl rfl rfl ?_ (fun hc w1 h1 => ?_) ?_; rotate_left 2; (first | exact gc_t _ | exact gc_f _ | exact gc_gt _ _ | exact gc_gf _ _); (obtain ⟨os1, d1, rfl⟩ := h1.more; (try simp only [gv_of hc]); (try (have hc1 := and_l hc; (try simp only [gv_of hc1]); (try (have hc2 := and_l hc1; (try simp only [gv_of hc2]))))); go_simp; first | done | rfl))
      try simp only [Act.put, List.setIfInBounds_toArray, List.set_cons_zero, List.set_cons_succ]
      (refine wpPl_eff rfl ?_ (fun K hK => ?_); (first | with_reducible rfl | rfl | (go_simp; done)); go_simp; refine (right_any _ _ _ _ _ _ _ (hB.ext (by repeat (first | exact Ext.refl _ | exact ext_app _ _ _ _ _ | exact ext_app2 _ _ _ _ _ _ | apply Ext.drew | apply Ext.alloc | apply Ext.more_)))).mono ?_; rintro e w' ⟨rfl, hb⟩; obtain ⟨os9, d9, rfl⟩ := hb.more; clear hb; refine hK _ _ ?_ ?_; (repeat (first | exact Ext.refl _ | apply Ext.drew | apply Ext.alloc | apply Ext.more_)))
      try simp only [Act.put, List.setIfInBounds_toArray, List.set_cons_zero, List.set_cons_succ]
      first | (refine wpPl_skip rfl rfl ?_) | (refine wpPl_read (v := ?_) rfl ?_ (fun w1 h1 => ?_) ?_; rotate_left 1; rfl; (obtain ⟨os1, d1, rfl⟩ := h1.more; go_simp; first | done | rfl)) | (refine wpPl_gread (v := ?_) (c := ?_) rfl rfl rfl rfl ?_ (fun hc w1 h1 => ?_) ?_; rotate_left 2; (first | exact gc_t _ | exact gc_f _ | exact gc_gt _ _ | exact gc_gf _ _); (obtain ⟨os1, d1, rfl⟩ := h1.more; (try simp only [gv_of hc]); (try (have hc1 := and_l hc; (try simp only [gv_of hc1]); (try (have hc2 := and_l hc1; (try simp only [gv_of hc2]))))); go_simp; first | done | rfl))
      try simp only [Act.put, List.setIfInBounds_toArray, List.set_cons_zero, List.set_cons_succ]
      first | (refine wpPl_pick_and rfl rfl rfl rfl rfl rfl ?_) | (refine wpPl_pick_or rfl rfl rfl rfl rfl rfl ?_) | (refine wpPl_read (v := ?_) rfl ?_ (fun w1 h1 => ?_) ?_; rotate_left 1; rfl; (obtain ⟨os1, d1, rfl⟩ := h1.more; go_simp; first | done | rfl))
      try simp only [Act.put, List.setIfInBounds_toArray, List.set_cons_zero, List.set_cons_succ]
      (refine wpPl_read (v := ?_) rfl ?_ (fun w1 h1 => ?_) ?_; rotate_left 1; rfl; (obtain ⟨os1, d1, rfl⟩ := h1.more; go_simp; first | done | rfl))
      try simp only [Act.put, List.setIfInBounds_toArray, List.set_cons_zero, List.set_cons_succ]
      refine wpPl_nil ?_
      go_wp2
      go_ret
      exact ⟨rfl, by repeat (first | exact hX | exact Ext.refl _ | apply Ext.drew | apply Ext.alloc | apply Ext.more_)⟩
set_option maxHeartbeats 1000000 in
theorem makes_no (r c : Int) (A : Option Addr) (n cap : Nat) (l : List Val) (w : World) (h : ArrIn w A n cap l) (hr : rightA r c l = false) :
    Calls Try.prog 3 #[.int .i64 r, .int .i64 c, .slice A n cap] w fun e w' => e = .returned (.bool true) ∧ Ext w w' := by
  have hrr : refRightA r c l = false := by rw [← rightA_eq r c l h.ok]; exact hr
  have hss : sameA r c l r c l = true := by simp [sameA]
  have hs0 : sameA 0 0 [] 0 0 [] = true := by decide
  have hr0 : rightA 0 0 [] = false := by decide
  go_enter Try.func3, Try.ntmps3
  go_wp2_with fail
  refine (awake_any _).mono ?_; rintro e w' ⟨rfl, hb⟩; obtain ⟨os1, d1, rfl⟩ := hb.more; clear hb
  go_wp2_with fail
  refine (small_any _ _ _ _ _ _ _ (h.ext (by repeat (first | exact Ext.refl _ | exact ext_app _ _ _ _ _ | exact ext_app2 _ _ _ _ _ _ | apply Ext.drew | apply Ext.alloc | apply Ext.more_)))).mono ?_; rintro e w' ⟨sm, rfl, hsm, hb⟩; obtain ⟨os2, d2, rfl⟩ := hb.more
  clear hb
  rcases hsm with rfl | ⟨rfl, hn300, htx⟩
  · go_wp2
    go_ret
    exact ⟨rfl, by repeat (first | exact Ext.refl _ | exact ext_app _ _ _ _ _ | exact ext_app2 _ _ _ _ _ _ | apply Ext.drew | apply Ext.alloc | apply Ext.more_)⟩
  clear htx
  go_wp2_with fail
  refine (make_no r c A n cap l _ (h.ext (by repeat (first | exact Ext.refl _ | exact ext_app _ _ _ _ _ | exact ext_app2 _ _ _ _ _ _ | apply Ext.drew | apply Ext.alloc | apply Ext.more_))) hr).mono ?_
  rintro e w' ⟨rfl, hb⟩
  obtain ⟨os3, d3, rfl⟩ := hb.more
  clear hb
  go_wp2_with fail
  refine (refRightA_any _ _ _ _ _ _ _ (h.ext (by repeat (first | exact Ext.refl _ | exact ext_app _ _ _ _ _ | exact ext_app2 _ _ _ _ _ _ | apply Ext.drew | apply Ext.alloc | apply Ext.more_)))).mono ?_; rintro e w' ⟨rfl, hb⟩; obtain ⟨os4, d4, rfl⟩ := hb.more; clear hb
  go_wp2_with fail
  refine (right_any _ _ _ _ _ _ _ (h.ext (by repeat (first | exact Ext.refl _ | exact ext_app _ _ _ _ _ | exact ext_app2 _ _ _ _ _ _ | apply Ext.drew | apply Ext.alloc | apply Ext.more_)))).mono ?_; rintro e w' ⟨rfl, hb⟩; obtain ⟨os5, d5, rfl⟩ := hb.more; clear hb
  go_wp2_with fail
  refine (refSame_any _ _ _ _ _ _ _ _ _ _ _ _ _ (ArrIn.none_ _) (ArrIn.none_ _)).mono ?_; rintro e w' ⟨rfl, hb⟩; obtain ⟨os6, d6, rfl⟩ := hb.more; clear hb
  go_wp2_with fail
  go_loopw [61] (fun i wr => ∃ k : Nat, k ≤ n ∧ i = .int .i64 k ∧ Ext w wr ∧ ABox (w.heap.size + os1.size) r c A n cap wr ∧ ABox (w.heap.size + os1.size + 1 + (os2.size + os3.size)) 0 0 none 0 0 wr) (fun i _ => n - (intOf i).toNat)
  case atStart => exact ⟨0, Nat.zero_le _, rfl, by repeat (first | exact Ext.refl _ | exact ext_app _ _ _ _ _ | exact ext_app2 _ _ _ _ _ _ | apply Ext.drew | apply Ext.alloc | apply Ext.more_), by refine ⟨?_, ?_, ?_, ?_⟩ <;> simp [go_sem], by refine ⟨?_, ?_, ?_, ?_⟩ <;> simp [go_sem]⟩
  case round =>
    obtain ⟨k, hk, rfl, hX, hb1, hb2⟩ := hrel
    by_cases hlt : k < n
    · obtain ⟨x, b, off, hx, hxo, rfl, hv⟩ := h.at hlt
      obtain ⟨v0, v1, v2, v3, v4, v5⟩ := hv.ext hX
      have hbl : b < wr.heap.size := lt_of_cell v0
      have hso : sameA 1 1 [oneV x] 1 1 [refOneV x] = true := by simp [sameA, oneV, refOneV, right_eq x hxo]
      go_wp2
      refine wp_plan (S := Ext _) [(0, 0), (2, 0), (1, 1), (3, 1), (4, 1), (5, 0)] [] (by kernel_rfl) (by kernel_rfl) (by kernel_rfl) (fun _ _ d _ _ h => by cases d <;> exact h) (Ext.drew (Ext.refl _)) ?_
      (refine wpPl_read (v := ?_) rfl ?_ (fun w1 h1 => ?_) ?_; rotate_left 1; rfl; (obtain ⟨os1, d1, rfl⟩ := h1.more; go_simp; first | done | rfl))
      try simp only [Act.put, List.setIfInBounds_toArray, List.set_cons_zero, List.set_cons_succ]
      (refine wpPl_read (v := ?_) rfl ?_ (fun w1 h1 => ?_) ?_; rotate_left 1; rfl; (obtain ⟨os1, d1, rfl⟩ := h1.more; go_simp; first | done | rfl))
      try simp only [Act.put, List.setIfInBounds_toArray, List.set_cons_zero, List.set_cons_succ]
      (refine wpPl_eff rfl ?_ (fun K hK => ?_); rfl; go_simp; refine (one_any _ _ _ _ _ _ _ hxo.2.1 hxo.2.2.2.1).mono ?_; rintro e w' ⟨⟨A1, c1, rfl, hs, hc1⟩, hb⟩; obtain ⟨os10, d10, rfl⟩ := hb.more; have hA1 : ArrIn _ A1 1 c1 [oneV x] := ⟨Rd.mono hs (Nat.zero_le _), rfl, hc1, (by omega), oneV_ok hxo⟩; clear hs hb; (try simp only [drew_more] at hA1); (try simp only [more_more] at hA1); refine hK _ _ ?_ ?_; (repeat (first | exact Ext.refl _ | apply Ext.drew | apply Ext.alloc | apply Ext.more_)))
      try simp only [Act.put, List.setIfInBounds_toArray, List.set_cons_zero, List.set_cons_succ]
      (refine wpPl_eff rfl ?_ (fun K hK => ?_); rfl; go_simp; refine (refOne_any _ _ _ _ _ _ _ hxo.2.1 hxo.2.2.2.1).mono ?_; rintro e w' ⟨⟨A2, c2, rfl, hs, hc2⟩, hb⟩; obtain ⟨os20, d20, rfl⟩ := hb.more; have hA2 : ArrIn _ A2 1 c2 [refOneV x] := ⟨Rd.mono hs (Nat.zero_le _), rfl, hc2, (by omega), refOneV_ok hxo⟩; clear hs hb; (try simp only [drew_more] at hA2); (try simp only [more_more] at hA2); refine hK _ _ ?_ ?_; (repeat (first | exact Ext.refl _ | apply Ext.drew | apply Ext.alloc | apply Ext.more_)))
      try simp only [Act.put, List.setIfInBounds_toArray, List.set_cons_zero, List.set_cons_succ]
      (refine wpPl_eff rfl ?_ (fun K hK => ?_); rfl; go_simp; refine (refSame_any 1 1 1 1 A1 A2 1 c1 1 c2 [oneV x] [refOneV x] _ (hA1.ext (by repeat (first | exact Ext.refl _ | exact ext_app _ _ _ _ _ | exact ext_app2 _ _ _ _ _ _ | apply Ext.drew | apply Ext.alloc | apply Ext.more_))) (hA2.ext (by repeat (first | exact Ext.refl _ | exact ext_app _ _ _ _ _ | exact ext_app2 _ _ _ _ _ _ | apply Ext.drew | apply Ext.alloc | apply Ext.more_)))).mono ?_; rintro e w' ⟨rfl, hb⟩; obtain ⟨os, d, rfl⟩ := hb.more; refine hK _ _ ?_ ?_; (repeat (first | exact Ext.refl _ | apply Ext.drew | apply Ext.alloc | apply Ext.more_)))
      try simp only [Act.put, List.setIfInBounds_toArray, List.set_cons_zero, List.set_cons_succ]
      (refine wpPl_read (v := ?_) rfl ?_ (fun w1 h1 => ?_) ?_; rotate_left 1; rfl; (obtain ⟨os1, d1, rfl⟩ := h1.more; go_simp; first | done | rfl))
      try simp only [Act.put, List.setIfInBounds_toArray, List.set_cons_zero, List.set_cons_succ]
      refine wpPl_nil ?_
      go_wp2
      have hxx : Ext w (wr.alloc (.cells #[.int .i64 x.kind, .int .i64 x.mant, .int .i64 x.exp, .string x.text, .bool x.truth, .int .i64 x.fault] 34)) := hX.trans ((Ext.refl _).alloc _)
      exact ⟨⟨k + 1, by omega, by go_num, hxx.more_ _ _, hb1.ext (by repeat (first | exact Ext.refl _ | exact ext_app _ _ _ _ _ | exact ext_app2 _ _ _ _ _ _ | apply Ext.drew | apply Ext.alloc | apply Ext.more_)), hb2.ext (by repeat (first | exact Ext.refl _ | exact ext_app _ _ _ _ _ | exact ext_app2 _ _ _ _ _ _ | apply Ext.drew | apply Ext.alloc | apply Ext.more_))⟩, by simp [intOf]; omega⟩
    · obtain ⟨p0, p1, p2, p3⟩ := hb1
      obtain ⟨q0, q1, q2, q3⟩ := hb2
      have hA := h.ext hX
      go_wp2
      refine wp_plan (S := Ext _) [(0, 0), (1, 0), (3, 0), (4, 0), (2, 1), (5, 1), (6, 0), (7, 0), (8, 0), (10, 0), (9, 1), (11, 0), (12, 0), (13, 0)] [] (by kernel_rfl) (by kernel_rfl) (by kernel_rfl) (fun _ _ d _ _ h => by cases d <;> exact h) (Ext.drew (Ext.refl _)) ?_
      (refine wpPl_read (v := ?_) rfl ?_ (fun w1 h1 => ?_) ?_; rotate_left 1; rfl; (obtain ⟨os1, d1, rfl⟩ := h1.more; go_simp; first | done | rfl))
      try simp only [Act.put, List.setIfInBounds_toArray, List.set_cons_zero, List.set_cons_succ]
      (refine wpPl_read (v := ?_) rfl ?_ (fun w1 h1 => ?_) ?_; rotate_left 1; rfl; (obtain ⟨os1, d1, rfl⟩ := h1.more; go_simp; first | done | rfl))
      try simp only [Act.put, List.setIfInBounds_toArray, List.set_cons_zero, List.set_cons_succ]
      (refine wpPl_read (v := ?_) rfl ?_ (fun w1 h1 => ?_) ?_; rotate_left 1; rfl; (obtain ⟨os1, d1, rfl⟩ := h1.more; go_simp; first | done | rfl))
      try simp only [Act.put, List.setIfInBounds_toArray, List.set_cons_zero, List.set_cons_succ]
      (refine wpPl_read (v := ?_) rfl ?_ (fun w1 h1 => ?_) ?_; rotate_left 1; rfl; (obtain ⟨os1, d1, rfl⟩ := h1.more; go_simp; first | done | rfl))
      try simp only [Act.put, List.setIfInBounds_toArray, List.set_cons_zero, List.set_cons_succ]
      (refine wpPl_eff rfl ?_ (fun K hK => ?_); rfl; go_simp; refine (sameA_any _ _ _ _ _ _ _ _ _ _ _ _ _ (hA.ext (by repeat (first | exact Ext.refl _ | exact ext_app _ _ _ _ _ | exact ext_app2 _ _ _ _ _ _ | apply Ext.drew | apply Ext.alloc | apply Ext.more_))) (hA.ext (by repeat (first | exact Ext.refl _ | exact ext_app _ _ _ _ _ | exact ext_app2 _ _ _ _ _ _ | apply Ext.drew | apply Ext.alloc | apply Ext.more_)))).mono ?_; rintro e w' ⟨rfl, hb⟩; obtain ⟨os7, d7, rfl⟩ := hb.more; clear hb; refine hK _ _ ?_ ?_; (repeat (first | exact Ext.refl _ | apply Ext.drew | apply Ext.alloc | apply Ext.more_)))
      try simp only [Act.put, List.setIfInBounds_toArray, List.set_cons_zero, List.set_cons_succ]
      (refine wpPl_eff rfl ?_ (fun K hK => ?_); rfl; go_simp; refine (refSame_any _ _ _ _ _ _ _ _ _ _ _ _ _ (hA.ext (by repeat (first | exact Ext.refl _ | exact ext_app _ _ _ _ _ | exact ext_app2 _ _ _ _ _ _ | apply Ext.drew | apply Ext.alloc | apply Ext.more_))) (hA.ext (by repeat (first | exact Ext.refl _ | exact ext_app _ _ _ _ _ | exact ext_app2 _ _ _ _ _ _ | apply Ext.drew | apply Ext.alloc | apply Ext.more_)))).mono ?_; rintro e w' ⟨rfl, hb⟩; obtain ⟨os8, d8, rfl⟩ := hb.more; clear hb; refine hK _ _ ?_ ?_; (repeat (first | exact Ext.refl _ | apply Ext.drew | apply Ext.alloc | apply Ext.more_)))
      try simp only [Act.put, List.setIfInBounds_toArray, List.set_cons_zero, List.set_cons_succ]
      (refine wpPl_read (v := ?_) rfl ?_ (fun w1 h1 => ?_) ?_; rotate_left 1; rfl; (obtain ⟨os1, d1, rfl⟩ := h1.more; go_simp; first | done | rfl))
      try simp only [Act.put, List.setIfInBounds_toArray, List.set_cons_zero, List.set_cons_succ]
      (refine wpPl_read (v := ?_) rfl ?_ (fun w1 h1 => ?_) ?_; rotate_left 1; rfl; (obtain ⟨os1, d1, rfl⟩ := h1.more; go_simp; first | done | rfl))
      try simp only [Act.put, List.setIfInBounds_toArray, List.set_cons_zero, List.set_cons_succ]
      first | (refine wpPl_skip rfl rfl ?_) | (refine wpPl_read (v := ?_) rfl ?_ (fun w1 h1 => ?_) ?_; rotate_left 1; rfl; (obtain ⟨os1, d1, rfl⟩ := h1.more; go_simp; first | done | rfl)) | (refine wpPl_gread (v := ?_) (c := ?_) rfl rfl rfl rfl ?_ (fun hc w1 h1 => ?_) ?_; rotate_left 2; (first | exact gc_t _ | exact gc_f _ | exact gc_gt _ _ | exact gc_gf _ _); (obtain ⟨os1, d1, rfl⟩ := h1.more; (try simp only [gv_of hc]); (try (have hc1 := and_l hc; (try simp only [gv_of hc1]); (try (have hc2 := and_l hc1; (try simp only [gv_of hc2]))))); go_simp; first | done | rfl))
      try simp only [Act.put, List.setIfInBounds_toArray, List.set_cons_zero, List.set_cons_succ]
      first | (refine wpPl_skip rfl rfl ?_) | (refine wpPl_read (v := ?_) rfl ?_ (fun w1 h1 => ?_) ?_; rotate_left 1; rfl; (obtain ⟨os1, d1, rfl⟩ := h1.more; go_simp; first | done | rfl)) | (refine wpPl_gread (v := ?_) (c := ?_) rfl rfl rfl rfl ?_ (fun hc w1 h1 => ?_) ?_; rotate_left 2; (first | exact gc_t _ | exact gc_f _ | exact gc_gt _ _ | exact gc_gf _ _); (obtain ⟨os1, d1, rfl⟩ := h1.more; (try simp only [gv_of hc]); (try (have hc1 := and_l hc; (try simp only [gv_of hc1]); (try (have hc2 := and_l hc1; (try simp only [gv_of hc2]))))); go_simp; first | done | rfl))
      try simp only [Act.put, List.setIfInBounds_toArray, List.set_cons_zero, List.set_cons_succ]
      (refine wpPl_eff rfl ?_ (fun K hK => ?_); (first | with_reducible rfl | rfl | (go_simp; done)); go_simp; refine (right_any _ _ _ _ _ _ _ (ArrIn.none_ _)).mono ?_; rintro e w' ⟨rfl, hb⟩; obtain ⟨os9, d9, rfl⟩ := hb.more; clear hb; refine hK _ _ ?_ ?_; (repeat (first | exact Ext.refl _ | apply Ext.drew | apply Ext.alloc | apply Ext.more_)))
      try simp only [Act.put, List.setIfInBounds_toArray, List.set_cons_zero, List.set_cons_succ]
      first | (refine wpPl_skip rfl rfl ?_) | (refine wpPl_read (v := ?_) rfl ?_ (fun w1 h1 => ?_) ?_; rotate_left 1; rfl; (obtain ⟨os1, d1, rfl⟩ := h1.more; go_simp; first | done | rfl)) | (refine wpPl_gread (v := ?_) (c := ?_) rfl rfl rfl rfl ?_ (fun hc w1 h1 => ?_) ?_; rotate_left 2; (first | exact gc_t _ | exact gc_f _ | exact gc_gt _ _ | exact gc_gf _ _); (obtain ⟨os1, d1, rfl⟩ := h1.more; (try simp only [gv_of hc]); (try (have hc1 := and_l hc; (try simp only [gv_of hc1]); (try (have hc2 := and_l hc1; (try simp only [gv_of hc2]))))); go_simp; first | done | rfl))
      try simp only [Act.put, List.setIfInBounds_toArray, List.set_cons_zero, List.set_cons_succ]
      first | (refine wpPl_pick_and rfl rfl rfl rfl rfl rfl ?_) | (refine wpPl_pick_or rfl rfl rfl rfl rfl rfl ?_) | (refine wpPl_read (v := ?_) rfl ?_ (fun w1 h1 => ?_) ?_; rotate_left 1; rfl; (obtain ⟨os1, d1, rfl⟩ := h1.more; go_simp; first | done | rfl))
      try simp only [Act.put, List.setIfInBounds_toArray, List.set_cons_zero, List.set_cons_succ]
      (refine wpPl_read (v := ?_) rfl ?_ (fun w1 h1 => ?_) ?_; rotate_left 1; rfl; (obtain ⟨os1, d1, rfl⟩ := h1.more; go_simp; first | done | rfl))
      try simp only [Act.put, List.setIfInBounds_toArray, List.set_cons_zero, List.set_cons_succ]
      refine wpPl_nil ?_
      go_wp2
      go_ret
      exact ⟨rfl, by repeat (first | exact hX | exact Ext.refl _ | apply Ext.drew | apply Ext.alloc | apply Ext.more_)⟩

theorem makes_any (r c : Int) (A : Option Addr) (n cap : Nat) (l : List Val) (w : World) (h : ArrIn w A n cap l) :
    Calls Try.prog 3 #[.int .i64 r, .int .i64 c, .slice A n cap] w fun e w' => e = .returned (.bool true) ∧ Ext w w' := by
  cases hr : rightA r c l with
  | true => exact makes_yes r c A n cap l w h hr
  | false => exact makes_no r c A n cap l w h hr
end Go.Proofs.Ytdhdphgecoplbaa
