/- Contracts: the document's Turn, Part, First; First. -/
import Derived.Test.YtdhdphgecoplbaaAcc
namespace Go.Proofs.Ytdhdphgecoplbaa
open Go.RowKit
set_option maxHeartbeats 800000 in
theorem refTurn_any (R C : Nat) (A : Option Addr) (n cap : Nat) (l : List Val) (w : World) (h : ArrIn w A n cap l) (hr1 : 1 ≤ R) (hc1 : 1 ≤ C) (hN : n ≤ 4096) (hn : n = R * C) :
    Calls Try.prog 34 #[AV R C (.slice A n cap)] w fun e w' => ArrO w.heap.size w' e C R (turnL R C l) ∧ Ext w w' := by
  obtain ⟨i0, hi0, hz0, hz1, hz2⟩ := info_parts info_val
  have hcr : C * R ≤ 4096 := by rw [Nat.mul_comm]; omega
  have b1 : R ≤ 4096 := by have : R * 1 ≤ R * C := Nat.mul_le_mul_left R hc1; omega
  have b2 : C ≤ 4096 := by have : 1 * C ≤ R * C := Nat.mul_le_mul_right C hr1; omega
  have HN := Lib.hid hn
  clear hn
  go_enter Try.func34, Try.ntmps34
  go_wp2
  have hacc0 := Acc.start ((w.alloc (Obj.cells #[.int .i64 R, .int .i64 C, .slice A n cap] 25)).alloc (Obj.cells #[.int .i64 0, .int .i64 0, .slice none 0 0] 25)) C R
  go_loopw [4] (fun i wr => ∃ (r cp : Nat) (D : Option Addr), r ≤ C ∧ i = .int .i64 r ∧ Acc ((w.alloc (Obj.cells #[.int .i64 R, .int .i64 C, .slice A n cap] 25)).alloc (Obj.cells #[.int .i64 0, .int .i64 0, .slice none 0 0] 25)) (w.heap.size + 1 + 1) C R D cp (r * R) (vals (fun i j => getV l (j * C + i)) R (r * R)) wr) (fun i _ => C - (intOf i).toNat)
  case atStart => exact ⟨0, 0, none, Nat.zero_le _, rfl, by simpa [vals] using hacc0⟩
  case round =>
    clear hacc0
    obtain ⟨r, cp, D, hr, rfl, hacc⟩ := hrel
    have p0 : wr.cell? ⟨w.heap.size, 0, none⟩ = some (.int .i64 R) := hacc.ext.cell_some (by simp [go_sem])
    have p1 : wr.cell? ⟨w.heap.size, 1, none⟩ = some (.int .i64 C) := hacc.ext.cell_some (by simp [go_sem])
    have hlt0 := hacc.lt
    by_cases hlt : r < C
    · go_wp2
      clear p0 p1 hlt0
      obtain ⟨wo, rfl⟩ : ∃ wo : World, wo = wr := ⟨_, rfl⟩
      go_loopw [5] (fun i wr => ∃ (j cp : Nat) (D : Option Addr), j ≤ R ∧ i = .int .i64 j ∧ Acc ((w.alloc (Obj.cells #[.int .i64 R, .int .i64 C, .slice A n cap] 25)).alloc (Obj.cells #[.int .i64 0, .int .i64 0, .slice none 0 0] 25)) (w.heap.size + 1 + 1) C R D cp (r * R + j) (vals (fun i j => getV l (j * C + i)) R (r * R + j)) wr) (fun i _ => R - (intOf i).toNat)
      case atStart => exact ⟨0, cp, D, Nat.zero_le _, rfl, by simpa using hacc⟩
      case round =>
        clear hacc
        obtain ⟨j, cp, D, hj, rfl, hacc⟩ := hrel
        have p0 : wr.cell? ⟨w.heap.size, 0, none⟩ = some (.int .i64 R) := hacc.ext.cell_some (by simp [go_sem])
        have hlt0 := hacc.lt
        by_cases hjt : j < R
        · have hk : r * R + j < 4096 := by have := cell_prod C hlt hjt hcr; omega
          go_wp2
          clear p0
          generalize hx : getV l (j * C + r) = x
          refine wp_plan (S := AccS _ _ _ _ _ _ _) [(0, 0), (1, 0), (2, 0), (3, 0), (4, 0), (5, 1), (6, 1), (7, 1), (8, 0), (9, 2)] [9] (by kernel_rfl) (by kernel_rfl) (by kernel_rfl) (fun _ _ d _ _ h => by cases d <;> exact h) ⟨(hacc.of_ext (by repeat (first | exact Ext.refl _ | exact ext_app _ _ _ _ _ | apply Ext.drew | apply Ext.alloc | apply Ext.more_))).ext, (hacc.of_ext (by repeat (first | exact Ext.refl _ | exact ext_app _ _ _ _ _ | apply Ext.drew | apply Ext.alloc | apply Ext.more_))).row⟩ ?_
          (refine wpPl_read (v := ?_) rfl ?_ (fun w1 h1 => ?_) ?_; rotate_left 1; rfl; (obtain ⟨h1e, h1r⟩ := h1; have c2 := cell_of_row _ _ 2 _ _ _ h1r; clear h1r; obtain ⟨os1, d1, rfl⟩ := h1e.more; go_simp; first | done | rfl))
          try simp only [Act.put, List.setIfInBounds_toArray, List.set_cons_zero, List.set_cons_succ]
          (refine wpPl_read (v := ?_) rfl ?_ (fun w1 h1 => ?_) ?_; rotate_left 1; rfl; (obtain ⟨h1e, h1r⟩ := h1; have c2 := cell_of_row _ _ 2 _ _ _ h1r; clear h1r; obtain ⟨os1, d1, rfl⟩ := h1e.more; go_simp; first | done | rfl))
          try simp only [Act.put, List.setIfInBounds_toArray, List.set_cons_zero, List.set_cons_succ]
          (refine wpPl_read (v := ?_) rfl ?_ (fun w1 h1 => ?_) ?_; rotate_left 1; rfl; (obtain ⟨h1e, h1r⟩ := h1; have c2 := cell_of_row _ _ 2 _ _ _ h1r; clear h1r; obtain ⟨os1, d1, rfl⟩ := h1e.more; go_simp; first | done | rfl))
          try simp only [Act.put, List.setIfInBounds_toArray, List.set_cons_zero, List.set_cons_succ]
          (refine wpPl_read (v := ?_) rfl ?_ (fun w1 h1 => ?_) ?_; rotate_left 1; rfl; (obtain ⟨h1e, h1r⟩ := h1; have c2 := cell_of_row _ _ 2 _ _ _ h1r; clear h1r; obtain ⟨os1, d1, rfl⟩ := h1e.more; go_simp; first | done | rfl))
          try simp only [Act.put, List.setIfInBounds_toArray, List.set_cons_zero, List.set_cons_succ]
          (refine wpPl_read (v := ?_) rfl ?_ (fun w1 h1 => ?_) ?_; rotate_left 1; rfl; (obtain ⟨h1e, h1r⟩ := h1; have c2 := cell_of_row _ _ 2 _ _ _ h1r; clear h1r; obtain ⟨os1, d1, rfl⟩ := h1e.more; go_simp; first | done | rfl))
          try simp only [Act.put, List.setIfInBounds_toArray, List.set_cons_zero, List.set_cons_succ]
          (refine wpPl_eff rfl ?_ (fun K hK => ?_); rfl; go_simp; refine (refGet_any R C j r A n cap l _ (h.ext (Ext.trans (by repeat (first | exact Ext.refl _ | exact ext_app _ _ _ _ _ | exact ext_app2 _ _ _ _ _ _ | apply Ext.drew | apply Ext.alloc | apply Ext.more_)) hacc.ext.drew)) HN.out hN hjt hlt x hx).mono ?_; rintro e w' ⟨rfl, hb⟩; obtain ⟨os, d, rfl⟩ := hb.more; clear hb; refine hK _ _ ⟨(hacc.of_ext (by repeat (first | exact Ext.refl _ | exact ext_app _ _ _ _ _ | apply Ext.drew | apply Ext.alloc | apply Ext.more_))).ext, (hacc.of_ext (by repeat (first | exact Ext.refl _ | exact ext_app _ _ _ _ _ | apply Ext.drew | apply Ext.alloc | apply Ext.more_))).row⟩ ?_)
          try simp only [Act.put, List.setIfInBounds_toArray, List.set_cons_zero, List.set_cons_succ]
          (refine wpPl_eff rfl ?_ (fun K hK => ?_); rfl; go_simp; refine hK _ _ ⟨(hacc.of_ext (by repeat (first | exact Ext.refl _ | exact ext_app _ _ _ _ _ | apply Ext.drew | apply Ext.alloc | apply Ext.more_))).ext, (hacc.of_ext (by repeat (first | exact Ext.refl _ | exact ext_app _ _ _ _ _ | apply Ext.drew | apply Ext.alloc | apply Ext.more_))).row⟩ ?_)
          try simp only [Act.put, List.setIfInBounds_toArray, List.set_cons_zero, List.set_cons_succ]
          (refine wpPl_eff rfl ?_ (fun K hK => ?_); rfl)
          refine wp_append_own _ _ _ _ rfl _ 34 i0 (VV 0 0 0 ⟨#[]⟩ false 0) 6 56 Try.underlying22 hi0 hz0 hz1 hz2 rfl (by decide) _ _ _ rfl (own_ext hacc.own (by repeat (first | exact Ext.refl _ | exact ext_app _ _ _ _ _ | apply Ext.drew | apply Ext.alloc | apply Ext.more_))) _ 1 1 (Val.cells x) rfl rfl (new_cells_at _ _ _ (by simp) rfl _) (cells_one _) (by simp only [maxLen]; omega) (by omega) (by have := hacc.lt; simp; omega) ?_
          intro v3 w3 ho3 hg3
          obtain ⟨A2, cap2, rfl, hrow3, hex3, hacc2⟩ := hacc.step (by repeat (first | exact Ext.refl _ | exact ext_app _ _ _ _ _ | apply Ext.drew | apply Ext.alloc | apply Ext.more_)) hg3 ho3
          refine hK _ _ ⟨hex3, hrow3⟩ ?_
          try simp only [Act.put, List.setIfInBounds_toArray, List.set_cons_zero, List.set_cons_succ]
          (refine wpPl_read (v := ?_) rfl ?_ (fun w1 h1 => ?_) ?_; rotate_left 1; rfl; (obtain ⟨h1e, h1r⟩ := h1; have c2 := cell_of_row _ _ 2 _ _ _ h1r; clear h1r; obtain ⟨os1, d1, rfl⟩ := h1e.more; go_simp; first | done | rfl))
          try simp only [Act.put, List.setIfInBounds_toArray, List.set_cons_zero, List.set_cons_succ]
          have c2 := cell_of_row _ _ 2 _ _ _ hrow3
          have f2 := frozen_of_row _ _ 2 _ _ hrow3
          clear hrow3 hex3 hg3 ho3
          (refine wpPl_tail rfl ?_ (fun K hK => ?_); rfl; go_simp; refine hK _ _ ?_)
          clear c2 f2
          try simp only [Act.put]
          refine wpPl_nil ?_
          go_wp2
          refine ⟨⟨j + 1, cap2, A2, by omega, by go_num, ?_⟩, by simp [intOf]; omega⟩
          rw [show r * R + (j + 1) = r * R + j + 1 by omega, vals_succ _ R r j hjt, hx]
          exact hacc2
        · obtain rfl : j = R := by omega
          go_wp2
          refine ⟨⟨r + 1, cp, D, by omega, by go_num, by rw [Nat.succ_mul]; exact hacc⟩, by simp [intOf]; omega⟩
    · obtain rfl : r = C := by omega
      have q0 : wr.cell? ⟨w.heap.size + 1, 0, none⟩ = some (.int .i64 0) := hacc.ext.cell_some (by simp [go_sem]); have q1 : wr.cell? ⟨w.heap.size + 1, 1, none⟩ = some (.int .i64 0) := hacc.ext.cell_some (by simp [go_sem]); have q2 : wr.cell? ⟨w.heap.size + 1, 2, none⟩ = some (.slice none 0 0) := hacc.ext.cell_some (by simp [go_sem]); have q3 : wr.frozen? ⟨w.heap.size + 1, 0, none⟩ = false := (hacc.ext.frozen (p := ⟨w.heap.size + 1, 0, none⟩) (by simp)).trans (by simp [go_sem]); have q4 : wr.frozen? ⟨w.heap.size + 1, 1, none⟩ = false := (hacc.ext.frozen (p := ⟨w.heap.size + 1, 1, none⟩) (by simp)).trans (by simp [go_sem]); have q5 : wr.frozen? ⟨w.heap.size + 1, 2, none⟩ = false := (hacc.ext.frozen (p := ⟨w.heap.size + 1, 2, none⟩) (by simp)).trans (by simp [go_sem]); have c0 := cell_of_row _ _ 0 _ _ _ hacc.row; have c1 := cell_of_row _ _ 1 _ _ _ hacc.row; have c2 := cell_of_row _ _ 2 _ _ _ hacc.row
      go_wp2
      obtain ⟨hrd, hcp⟩ := hacc.rd
      have hl : (turnL R r l).length = r * R := vals_length _ _ _
      refine bodyPost_ret (v := AV r R (.slice D (r * R) cp)) (by simp [results, Try.results34, go_sem, q0, q1, q2]; done) rfl ⟨⟨D, cp, by rw [hl], ?_, by rw [hl]; exact hcp⟩, ?_⟩
      · exact Rd.mono (((hrd.set_far _ (by simp)).set_far _ (by simp)).set_far _ (by simp)) (by omega)
      · exact Ext.set (Ext.set (Ext.set (Ext.trans (by repeat (first | exact Ext.refl _ | exact ext_app _ _ _ _ _ | exact ext_app2 _ _ _ _ _ _ | apply Ext.drew | apply Ext.alloc | apply Ext.more_)) hacc.ext) _ (by simp)) _ (by simp)) _ (by simp)

/-- The first fault. -/
def firstF : List Val → Option Int
  | [] => none
  | x :: l => if x.kind = 4 then some x.fault else firstF l
theorem firstF_at : ∀ {l : List Val} {k : Nat} {x : Val}, (∀ j y, j < k → l[j]? = some y → y.kind ≠ 4) → l[k]? = some x → x.kind = 4 → firstF l = some x.fault
  | [], k, x, _, h, _ => by simp at h
  | y :: l, 0, x, _, h, hk => by
    obtain rfl : y = x := by simpa using h
    simp [firstF, hk]
  | y :: l, k + 1, x, hn, h, hk => by
    have h0 := hn 0 y (by omega) rfl
    simp only [firstF, h0, if_false]
    exact firstF_at (k := k) (fun j z hj hz => hn (j + 1) z (by omega) (by simpa using hz)) (by simpa using h) hk
theorem firstF_none : ∀ {l : List Val}, (∀ j y, j < l.length → l[j]? = some y → y.kind ≠ 4) → firstF l = none
  | [], _ => rfl
  | y :: l, hn => by
    have h0 := hn 0 y (by simp) rfl
    simp only [firstF, h0, if_false]
    exact firstF_none (fun j z hj hz => hn (j + 1) z (by simp; omega) (by simpa using hz))
theorem kinds_succ {l : List Val} {k : Nat} {x : Val} (H : ∀ j y, j < k → l[j]? = some y → y.kind ≠ 4) (hx : l[k]? = some x) (h : x.kind ≠ 4) : ∀ j y, j < k + 1 → l[j]? = some y → y.kind ≠ 4 := by
  intro j y hj hy
  by_cases hjk : j = k
  · subst hjk
    obtain rfl : x = y := by rw [hx] at hy; simpa using hy
    exact h
  · exact H j y (by omega) hy
set_option maxHeartbeats 400000 in
theorem refFirst_any (r c : Int) (A : Option Addr) (n cap : Nat) (l : List Val) (w : World) (h : ArrIn w A n cap l) (f : Int) (hf : (firstF l).getD 0 = f) :
    Calls Try.prog 33 #[AV r c (.slice A n cap)] w fun e w' => e = .returned (.int .i64 f) ∧ Ext w w' := by
  have hsm := h.small
  have HF := Lib.hid hf
  clear hf
  go_enter Try.func33, Try.ntmps33
  go_wp2
  go_loopw [3] (fun i wr => ∃ k : Nat, k ≤ n ∧ i = .int .i64 k ∧ Ext (w.alloc (Obj.cells #[.int .i64 r, .int .i64 c, .slice A n cap] 25)) wr ∧ Hid (∀ j y, j < k → l[j]? = some y → y.kind ≠ 4)) (fun i _ => n - (intOf i).toNat)
  case atStart => exact ⟨0, Nat.zero_le _, rfl, Ext.refl _, fun j y hj => absurd hj (Nat.not_lt_zero _)⟩
  case round =>
    obtain ⟨k, hk, rfl, hX, H⟩ := hrel
    obtain ⟨os, d, rfl⟩ := hX.more
    by_cases hlt : k < n
    · obtain ⟨x, b, off, hx, hxo, rfl, hv⟩ := h.at hlt; obtain ⟨v0, v1, v2, v3, v4, v5⟩ := hv; have hbl : b < w.heap.size := lt_of_cell v0
      by_cases hk4 : x.kind = 4
      · have hf : f = x.fault := by rw [← HF.out, firstF_at H.out hx hk4]; rfl
        have HF2 := Lib.hid hf
        clear hf
        have h4 : (x.kind == 4) = true := by simp [hk4]
        clear hk4
        go_wp2
        go_ret
        exact ⟨ret_int HF2.out.symm, by repeat (first | exact Ext.refl _ | exact ext_app _ _ _ _ _ | exact ext_app2 _ _ _ _ _ _ | apply Ext.drew | apply Ext.alloc | apply Ext.more_)⟩
      · have HK := Lib.hid hk4
        have h4 : (x.kind == 4) = false := by simp [hk4]
        clear hk4
        go_wp2
        exact ⟨⟨k + 1, by omega, by go_num, by repeat (first | exact Ext.refl _ | exact ext_app _ _ _ _ _ | exact ext_app2 _ _ _ _ _ _ | apply Ext.drew | apply Ext.alloc | apply Ext.more_), kinds_succ H.out hx HK.out⟩, by simp [intOf]; omega⟩
    · have hf : f = 0 := by
        rw [← HF.out, firstF_none (fun j y hj hy => H.out j y (by have := h.len; omega) hy)]; rfl
      subst hf
      go_wp2
      go_ret
      exact ⟨rfl, by repeat (first | exact Ext.refl _ | exact ext_app _ _ _ _ _ | exact ext_app2 _ _ _ _ _ _ | apply Ext.drew | apply Ext.alloc | apply Ext.more_)⟩
set_option maxHeartbeats 400000 in
theorem first_yes (r c : Int) (A : Option Addr) (n cap : Nat) (l : List Val) (w : World) (h : ArrIn w A n cap l) (hr : rightA r c l = true) (f : Int) (g : Bool) (hf : (firstF l).getD 0 = f) (hg : (firstF l).isSome = g) :
    Calls Try.prog 27 #[AV r c (.slice A n cap)] w fun e w' => e = .returned (.tuple #[.int .i64 f, .bool g]) ∧ Ext w w' := by
  have hsm := h.small
  have HF := Lib.hid hf
  have HG := Lib.hid hg
  clear hf hg
  go_enter Try.func27, Try.ntmps27
  go_wp2_with fail
  refine (right_any _ _ _ _ _ _ _ (h.ext (by repeat (first | exact Ext.refl _ | exact ext_app _ _ _ _ _ | exact ext_app2 _ _ _ _ _ _ | apply Ext.drew | apply Ext.alloc | apply Ext.more_)))).mono ?_; rintro e w' ⟨rfl, hb⟩; obtain ⟨os1, d1, rfl⟩ := hb.more; clear hb
  go_wp2
  go_loopw [11] (fun i wr => ∃ k : Nat, k ≤ n ∧ i = .int .i64 k ∧ Ext (w.alloc (Obj.cells #[.int .i64 r, .int .i64 c, .slice A n cap] 25)) wr ∧ Hid (∀ j y, j < k → l[j]? = some y → y.kind ≠ 4)) (fun i _ => n - (intOf i).toNat)
  case atStart => exact ⟨0, Nat.zero_le _, rfl, by repeat (first | exact Ext.refl _ | exact ext_app _ _ _ _ _ | exact ext_app2 _ _ _ _ _ _ | apply Ext.drew | apply Ext.alloc | apply Ext.more_), fun j y hj => absurd hj (Nat.not_lt_zero _)⟩
  case round =>
    obtain ⟨k, hk, rfl, hX, H⟩ := hrel
    obtain ⟨os, d, rfl⟩ := hX.more
    by_cases hlt : k < n
    · obtain ⟨x, b, off, hx, hxo, rfl, hv⟩ := h.at hlt; obtain ⟨v0, v1, v2, v3, v4, v5⟩ := hv; have hbl : b < w.heap.size := lt_of_cell v0
      by_cases hk4 : x.kind = 4
      · have hf : f = x.fault ∧ g = true := by rw [← HF.out, ← HG.out, firstF_at H.out hx hk4]; exact ⟨rfl, rfl⟩
        have HF2 := Lib.hid hf.1
        obtain rfl := hf.2
        clear hf
        have h4 : (x.kind == 4) = true := by simp [hk4]
        clear hk4
        go_wp2
        go_ret2
        exact ⟨by have := HF2.out; subst this; rfl, by repeat (first | exact Ext.refl _ | exact ext_app _ _ _ _ _ | exact ext_app2 _ _ _ _ _ _ | apply Ext.drew | apply Ext.alloc | apply Ext.more_)⟩
      · have HK := Lib.hid hk4
        have h4 : (x.kind == 4) = false := by simp [hk4]
        clear hk4
        go_wp2
        exact ⟨⟨k + 1, by omega, by go_num, by repeat (first | exact Ext.refl _ | exact ext_app _ _ _ _ _ | exact ext_app2 _ _ _ _ _ _ | apply Ext.drew | apply Ext.alloc | apply Ext.more_), kinds_succ H.out hx HK.out⟩, by simp [intOf]; omega⟩
    · have hf : f = 0 ∧ g = false := by
        rw [← HF.out, ← HG.out, firstF_none (fun j y hj hy => H.out j y (by have := h.len; omega) hy)]; exact ⟨rfl, rfl⟩
      obtain ⟨rfl, rfl⟩ := hf
      go_wp2
      go_ret2
      exact ⟨rfl, by repeat (first | exact Ext.refl _ | exact ext_app _ _ _ _ _ | exact ext_app2 _ _ _ _ _ _ | apply Ext.drew | apply Ext.alloc | apply Ext.more_)⟩
set_option maxHeartbeats 400000 in
theorem first_no (r c : Int) (A : Option Addr) (n cap : Nat) (l : List Val) (w : World) (h : ArrIn w A n cap l) (hr : rightA r c l = false) :
    Calls Try.prog 27 #[AV r c (.slice A n cap)] w fun e w' => e = .returned (.tuple #[.int .i64 0, .bool false]) ∧ Ext w w' := by
  go_enter Try.func27, Try.ntmps27
  go_wp2_with fail
  refine (right_any _ _ _ _ _ _ _ (h.ext (by repeat (first | exact Ext.refl _ | exact ext_app _ _ _ _ _ | exact ext_app2 _ _ _ _ _ _ | apply Ext.drew | apply Ext.alloc | apply Ext.more_)))).mono ?_; rintro e w' ⟨rfl, hb⟩; obtain ⟨os1, d1, rfl⟩ := hb.more; clear hb
  go_wp2
  go_ret2
  exact ⟨rfl, by repeat (first | exact Ext.refl _ | exact ext_app _ _ _ _ _ | exact ext_app2 _ _ _ _ _ _ | apply Ext.drew | apply Ext.alloc | apply Ext.more_)⟩
end Go.Proofs.Ytdhdphgecoplbaa
