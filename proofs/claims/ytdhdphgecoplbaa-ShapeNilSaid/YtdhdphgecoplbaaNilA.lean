/- Contracts: Each and Both of a function that isn't there. -/
import Derived.Test.YtdhdphgecoplbaaBothC
namespace Go.Proofs.Ytdhdphgecoplbaa
open Go.RowKit
theorem nil_nil (W : World) : (binOp .eql 39 .nilFunc .nilFunc).run Try.prog W = .ok (.bool true) W := by
  first
  | kernel_rfl
  | rfl
set_option maxHeartbeats 400000 in
theorem each1_nil (i j : Int) (pf px : Nat) (W : World) (hf : W.cell? ⟨pf, 0, none⟩ = some .nilFunc) :
    Calls Try.prog 55 #[.int .i64 i, .int .i64 j, .pointer (some ⟨pf, 0, none⟩), .pointer (some ⟨px, 0, none⟩)] W fun e W' => e = .returned (VV 4 0 0 ⟨#[]⟩ false 9) ∧ Ext W W' := by
  have z0 := lt_of_cell hf
  have hb9 : badF 9 = 9 := by decide
  have hnn := nil_nil
  go_enter Try.func55, Try.ntmps55
  go_wp2_with (go_at_call 56; refine (bad_any _ _).mono ?_; rintro e w' ⟨rfl, hb⟩; obtain ⟨os3, d3, rfl⟩ := hb.more; clear hb)
  exact bodyPost_ret (v := VV 4 0 0 ⟨#[]⟩ false 9) (by simp [results, Try.results55, go_sem]; done) rfl ⟨rfl, by repeat (first | with_reducible exact Ext.refl _ | with_reducible exact hX | with_reducible exact ext_d _ _ _ _ | with_reducible exact ext_app _ _ _ _ _ | with_reducible exact ext_app2 _ _ _ _ _ _ | with_reducible exact ext_app3 _ _ _ _ _ _ _ | with_reducible apply Ext.drew | with_reducible apply Ext.alloc | with_reducible apply Ext.more_)⟩
theorem vals_const (x : Val) (C k : Nat) : vals (fun _ _ => x) C k = List.replicate k x := by
  unfold vals
  apply List.ext_getElem
  · simp
  · intro i h1 h2; simp
set_option maxHeartbeats 800000 in
theorem each_nil (R C : Nat) (A : Option Addr) (n cap : Nat) (l : List Val) (w : World) (h : ArrIn w A n cap l) (hr : rightA R C l = true) :
    Calls Try.prog 21 #[AV R C (.slice A n cap), .nilFunc] w fun e w' => ∃ D c, e = .returned (AV R C (.slice D n c)) ∧ ArrIn w' D n c (List.replicate n bad9) ∧ Ext w w' := by
  obtain ⟨r1, r2, r3, r4, r5, r6⟩ := right_bd hr
  have HN := Lib.hid (show n = R * C by have := h.len; omega)
  have hN : n ≤ 4096 := by have := HN.out; omega
  clear r4
  go_enter Try.func21, Try.ntmps21
  go_wp2_with fail
  refine (right_any _ _ _ _ _ _ _ (h.ext (by repeat (first | with_reducible exact Ext.refl _ | with_reducible exact hX | with_reducible exact ext_d _ _ _ _ | with_reducible exact ext_app _ _ _ _ _ | with_reducible exact ext_app2 _ _ _ _ _ _ | with_reducible exact ext_app3 _ _ _ _ _ _ _ | with_reducible apply Ext.drew | with_reducible apply Ext.alloc | with_reducible apply Ext.more_)))).mono ?_; rintro e w' ⟨rfl, hb⟩; obtain ⟨os1, d1, rfl⟩ := hb.more; clear hb
  go_wp2_with fail
  refine (build_pure R C 55 #[.pointer (some ⟨w.heap.size + 1, 0, none⟩), .pointer (some ⟨w.heap.size, 0, none⟩)] (fun _ _ => bad9) _ r1 r2 r3 (fun _ _ => by kernel_rfl) ?_).mono ?_
  · intro i j W hi hj hx
    exact each1_nil i j (w.heap.size + 1) w.heap.size W (hx.cell_some (by simp [go_sem]))
  rintro e w' ⟨D, c, he, hs, hc, hb⟩
  obtain ⟨os', d', rfl⟩ := hb.more
  rw [vals_const] at hs
  rw [← HN.out] at he hs hc
  subst he
  go_wp2
  exact bodyPost_ret (v := AV R C (.slice D n c)) (by simp [results, Try.results21, go_sem]; done) rfl ⟨D, c, rfl, ⟨Rd.mono ((by (try simp only [more_more] at hs); (try simp only [drew_more] at hs); (try simp only [more_drew] at hs); (try simp only [Array.append_assoc] at hs); exact Rd.swap hs (by first | (simp; done) | (simp; omega) | omega) (by first | (simp; done) | (simp; omega) | omega) (by first | (simp; done) | (simp; omega) | omega))) (Nat.zero_le 0), by simp, hc, by omega, fun x hx => by rw [(List.mem_replicate.1 hx).2]; exact bad9_ok⟩, by repeat (first | with_reducible exact Ext.refl _ | with_reducible exact hX | with_reducible exact ext_d _ _ _ _ | with_reducible exact ext_app _ _ _ _ _ | with_reducible exact ext_app2 _ _ _ _ _ _ | with_reducible exact ext_app3 _ _ _ _ _ _ _ | with_reducible apply Ext.drew | with_reducible apply Ext.alloc | with_reducible apply Ext.more_)⟩
/-- What Both comes to if the function isn't there. -/
def nilV (oa ob : Option Val) : Val := if oa.isSome && ob.isSome then bad9 else badV 6
def nilL (R C : Nat) (l : List Val) (R' C' : Nat) (l' : List Val) : List Val := vals (fun i j => nilV (spreadO R C l i j) (spreadO R' C' l' i j)) (max C C') (max R R' * max C C')
set_option maxHeartbeats 800000 in
theorem both_nil (R C R' C' : Nat) (A B : Option Addr) (n cap n' cap' : Nat) (l l' : List Val) (w : World) (h : ArrIn w A n cap l) (h' : ArrIn w B n' cap' l') (hr : rightA R C l = true) (hr' : rightA R' C' l' = true) (hf : max R R' * max C C' ≤ 4096) :
    Calls Try.prog 41 #[AV R C (.slice A n cap), AV R' C' (.slice B n' cap'), .nilFunc] w fun e w' => ∃ D c, e = .returned (AV (max R R' : Nat) (max C C' : Nat) (.slice D (max R R' * max C C') c)) ∧ ArrIn w' D (max R R' * max C C') c (nilL R C l R' C' l') ∧ Ext w w' := by
  obtain ⟨r1, r2, r3, r4, r5, r6⟩ := right_bd hr
  obtain ⟨s1, s2, s3, s4, s5, s6⟩ := right_bd hr'
  have HN := Lib.hid (And.intro (show n = R * C by have := h.len; omega) (show n' = R' * C' by have := h'.len; omega))
  have hN : n ≤ 4096 := by have := HN.out; omega
  have hN' : n' ≤ 4096 := by have := HN.out; omega
  have HCM : Hid ((commonO R C R' C').getD (0, 0) = (max R R', max C C') ∧ (commonO R C R' C').isSome = true) := by show _ ∧ _; simp [commonO, hf]
  unfold nilL
  have hm1 : 1 ≤ max R R' := by omega
  have hm2 : 1 ≤ max C C' := by omega
  generalize max R R' = M at *
  generalize max C C' = N at *
  clear r3 r4 s3 s4
  go_enter Try.func41, Try.ntmps41
  go_wp2_with fail
  refine (right_any _ _ _ _ _ _ _ (h.ext (by repeat (first | with_reducible exact Ext.refl _ | with_reducible exact hX | with_reducible exact ext_d _ _ _ _ | with_reducible exact ext_app _ _ _ _ _ | with_reducible exact ext_app2 _ _ _ _ _ _ | with_reducible exact ext_app3 _ _ _ _ _ _ _ | with_reducible apply Ext.drew | with_reducible apply Ext.alloc | with_reducible apply Ext.more_)))).mono ?_; rintro e w' ⟨rfl, hb⟩; obtain ⟨os1, d1, rfl⟩ := hb.more; clear hb
  go_wp2_with fail
  refine (right_any _ _ _ _ _ _ _ (h'.ext (by repeat (first | with_reducible exact Ext.refl _ | with_reducible exact hX | with_reducible exact ext_d _ _ _ _ | with_reducible exact ext_app _ _ _ _ _ | with_reducible exact ext_app2 _ _ _ _ _ _ | with_reducible exact ext_app3 _ _ _ _ _ _ _ | with_reducible apply Ext.drew | with_reducible apply Ext.alloc | with_reducible apply Ext.more_)))).mono ?_; rintro e w' ⟨rfl, hb⟩; obtain ⟨os2, d2, rfl⟩ := hb.more; clear hb
  go_wp2_with fail
  refine (common_c R C R' C' _ _ _ _ _ _ l l' _ (h.ext (by repeat (first | with_reducible exact Ext.refl _ | with_reducible exact hX | with_reducible exact ext_d _ _ _ _ | with_reducible exact ext_app _ _ _ _ _ | with_reducible exact ext_app2 _ _ _ _ _ _ | with_reducible exact ext_app3 _ _ _ _ _ _ _ | with_reducible apply Ext.drew | with_reducible apply Ext.alloc | with_reducible apply Ext.more_))) (h'.ext (by repeat (first | with_reducible exact Ext.refl _ | with_reducible exact hX | with_reducible exact ext_d _ _ _ _ | with_reducible exact ext_app _ _ _ _ _ | with_reducible exact ext_app2 _ _ _ _ _ _ | with_reducible exact ext_app3 _ _ _ _ _ _ _ | with_reducible apply Ext.drew | with_reducible apply Ext.alloc | with_reducible apply Ext.more_))) hr hr' M N true HCM.out.1 HCM.out.2).mono ?_; rintro e w' ⟨rfl, hb⟩; obtain ⟨os3, d3, rfl⟩ := hb.more; clear hb
  go_wp2_with fail
  refine (build_pure M N 65 #[.pointer (some ⟨w.heap.size, 0, none⟩), .pointer (some ⟨w.heap.size + 1, 0, none⟩), .pointer (some ⟨w.heap.size + 1 + 1, 0, none⟩)] (fun i j => nilV (spreadO R C l i j) (spreadO R' C' l' i j)) _ hm1 hm2 hf (fun _ _ => by kernel_rfl) ?_).mono ?_
  · intro i j W hi hj hx
    have cA : ABox w.heap.size R C A n cap W := ABox.ext (by refine ⟨?_, ?_, ?_, ?_⟩ <;> simp [go_sem]) hx
    have cB : ABox (w.heap.size + 1) R' C' B n' cap' W := ABox.ext (by refine ⟨?_, ?_, ?_, ?_⟩ <;> simp [go_sem]) hx
    have cF : W.cell? ⟨w.heap.size + 1 + 1, 0, none⟩ = some .nilFunc := hx.cell_some (by simp [go_sem])
    have aA := h.ext (Ext.trans (by repeat (first | with_reducible exact Ext.refl _ | with_reducible exact hX | with_reducible exact ext_d _ _ _ _ | with_reducible exact ext_app _ _ _ _ _ | with_reducible exact ext_app2 _ _ _ _ _ _ | with_reducible exact ext_app3 _ _ _ _ _ _ _ | with_reducible apply Ext.drew | with_reducible apply Ext.alloc | with_reducible apply Ext.more_)) hx)
    have aB := h'.ext (Ext.trans (by repeat (first | with_reducible exact Ext.refl _ | with_reducible exact hX | with_reducible exact ext_d _ _ _ _ | with_reducible exact ext_app _ _ _ _ _ | with_reducible exact ext_app2 _ _ _ _ _ _ | with_reducible exact ext_app3 _ _ _ _ _ _ _ | with_reducible apply Ext.drew | with_reducible apply Ext.alloc | with_reducible apply Ext.more_)) hx)
    by_cases hs : (spreadO R C l i j).isSome = true ∧ (spreadO R' C' l' i j).isSome = true
    · have e : nilV (spreadO R C l i j) (spreadO R' C' l' i j) = bad9 := by unfold nilV; rw [hs.1, hs.2]; rfl
      rw [e]
      exact both1_nil R C R' C' i j n cap n' cap' w.heap.size (w.heap.size + 1) (w.heap.size + 1 + 1) A B l l' W cA cB cF aA aB HN.out.1 HN.out.2 hN hN' hs.1 hs.2
    · have e : nilV (spreadO R C l i j) (spreadO R' C' l' i j) = badV 6 := by
        unfold nilV
        rw [if_neg (by simpa using hs)]
      rw [e]
      refine both1_none R C R' C' i j n cap n' cap' w.heap.size (w.heap.size + 1) (w.heap.size + 1 + 1) A B l l' W cA cB aA aB HN.out.1 HN.out.2 hN hN' ?_
      cases ha : spreadO R C l i j with
      | none => exact .inl rfl
      | some x =>
        cases hb : spreadO R' C' l' i j with
        | none => exact .inr rfl
        | some y => exact absurd (by rw [ha, hb]; exact ⟨rfl, rfl⟩) hs
  rintro e w' ⟨D, c, rfl, hs, hc, hb⟩
  obtain ⟨os', d', rfl⟩ := hb.more
  go_wp2
  refine bodyPost_ret (v := AV M N (.slice D (M * N) c)) (by simp [results, Try.results41, go_sem]; done) rfl ⟨D, c, rfl, ⟨Rd.mono ((by (try simp only [more_more] at hs); (try simp only [drew_more] at hs); (try simp only [more_drew] at hs); (try simp only [Array.append_assoc] at hs); exact Rd.swap hs (by first | (simp; done) | (simp; omega) | omega) (by first | (simp; done) | (simp; omega) | omega) (by first | (simp; done) | (simp; omega) | omega))) (Nat.zero_le 0), vals_length _ _ _, hc, by omega, fun x hx => ?_⟩, by repeat (first | with_reducible exact Ext.refl _ | with_reducible exact hX | with_reducible exact ext_d _ _ _ _ | with_reducible exact ext_app _ _ _ _ _ | with_reducible exact ext_app2 _ _ _ _ _ _ | with_reducible exact ext_app3 _ _ _ _ _ _ _ | with_reducible apply Ext.drew | with_reducible apply Ext.alloc | with_reducible apply Ext.more_)⟩
  obtain ⟨i, j, rfl⟩ := vals_mem hx
  unfold nilV
  split
  · exact bad9_ok
  · exact badV_ok 6 I64_6
end Go.Proofs.Ytdhdphgecoplbaa
