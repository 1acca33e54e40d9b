/- Contracts: the document's Below and Common; Common. -/
import Derived.Test.YtdhdphgecoplbaaRefC
import Derived.Test.YtdhdphgecoplbaaFloat
namespace Go.Proofs.Ytdhdphgecoplbaa
open Go.RowKit
/-- An array's values stand in no array's variable: that one may turn. -/
theorem ArrIn.box {X : World} {os : Array Obj} {d : Nat} {i0 i1 : Int} {p : Option Addr} {q r : Nat} {ty : TypeId} {A : Option Addr} {n cap : Nat} {l : List Val} (h : ArrIn (more (X.alloc (.cells #[.int .i64 i0, .int .i64 i1, .slice p q r] ty)) os d) A n cap l) (C' : Array Value) (ty' : TypeId) (d' : Nat) :
    ArrIn (more (X.alloc (.cells C' ty')) os d') A n cap l := by
  refine ⟨fun j u hu => ?_, h.len, h.cap, h.small, h.ok⟩
  obtain ⟨b, off, hA, hb, hc⟩ := h.rd j u hu
  refine ⟨b, off, hA, hb, ?_⟩
  have hne : b ≠ X.heap.size := by
    intro e
    cases l with
    | nil => simp [vcells] at hu
    | cons x l =>
      obtain ⟨b', off', hA', _, hc3⟩ := h.rd 3 (.string x.text) (by simp [vcells, Val.cells])
      rw [hA] at hA'
      simp only [Option.some.injEq, Addr.mk.injEq, and_true] at hA'
      obtain ⟨rfl, rfl⟩ := hA'
      subst e
      rw [more_cell _ _ _ _ _ (by simp), World.cell?_alloc_at _ _ _ _ rfl] at hc3
      simp at hc3
  rw [← hc]
  refine World.cell?_of_block ?_
  show (more (X.alloc (.cells C' ty')) os d').heap[b]? = (more (X.alloc _) os d).heap[b]?
  simp only [more, World.alloc, Array.getElem?_append, Array.size_push, Array.getElem?_push]
  by_cases hlt : b < X.heap.size + 1
  · rw [if_pos hlt, if_pos hlt, if_neg hne, if_neg hne]
  · rw [if_neg hlt, if_neg hlt]
theorem refTurn_s (R C : Nat) (A : Option Addr) (n cap : Nat) (l : List Val) (w : World) (h : ArrIn w A n cap l) (hr : rightA R C l = true) :
    Calls Try.prog 34 #[AV R C (.slice A n cap)] w fun e w' => ∃ D c, e = .returned (AV C R (.slice D n c)) ∧ ArrIn w' D n c (turnL R C l) ∧ SlV w.heap.size w' D (turnL R C l) ∧ Ext w w' := by
  obtain ⟨a1, a2, a3, a4, a5⟩ := rightA_nat.1 hr
  have hln := h.len
  refine (refTurn_any R C A n cap l w h a1 a2 (by omega) (by omega)).mono ?_
  rintro e w' ⟨⟨D, c, rfl, hs, hc⟩, hX⟩
  have e : (turnL R C l).length = n := by rw [turnL_length, ← h.len, a4, Nat.mul_comm]
  rw [e] at hc ⊢
  exact ⟨D, c, rfl, ⟨Rd.mono hs (Nat.zero_le _), e, hc, h.small, turn_all a4 h.ok⟩, hs, hX⟩
theorem turn_beside (R C : Nat) (l : List Val) (R' C' : Nat) (l' : List Val) : turnL (max C C') (R + R') (besideL C R (turnL R C l) C' R' (turnL R' C' l')) = belowL R C l R' C' l' := by
  rw [turnL, belowL]
  refine vals_congr fun i j hi hj => ?_
  rw [beside_get C R _ C' R' _ hj hi]
  by_cases q : i < R
  · rw [if_pos q, if_pos q, orNone_turn]
  · rw [if_neg q, if_neg q]
    obtain ⟨k, rfl⟩ : ∃ k, i = R + k := ⟨i - R, by omega⟩
    rw [show (((R + k : Nat) : Int) - (R : Int)) = (k : Int) by omega, orNone_turn]
/-- Below is Beside, turned. -/
theorem below_turned {a b : NA} : belowO a b = (besideO ⟨a.C, a.R, turnL a.R a.C a.l⟩ ⟨b.C, b.R, turnL b.R b.C b.l⟩).map fun z => ⟨z.C, z.R, turnL z.R z.C z.l⟩ := by
  unfold belowO besideO
  by_cases h : (a.R + b.R) * max a.C b.C ≤ 4096
  · have h' : max a.C b.C * (a.R + b.R) ≤ 4096 := by rw [Nat.mul_comm]; exact h
    rw [if_pos h, if_pos h', Option.map_some, turn_beside]
  · have h' : ¬ max a.C b.C * (a.R + b.R) ≤ 4096 := by rw [Nat.mul_comm]; exact h
    rw [if_neg h, if_neg h', Option.map_none]
set_option maxHeartbeats 2000000 in
theorem refBelow_c : JoinC 39 belowO := by
  intro a b A B n cap n' cap' w h h' ha hb x k hx hk
  rw [below_turned] at hx hk
  have hra := turn_right ha
  have hrb := turn_right hb
  cases hz : besideO ⟨a.C, a.R, turnL a.R a.C a.l⟩ ⟨b.C, b.R, turnL b.R b.C b.l⟩ with
  | none =>
    rw [hz] at hx hk
    simp only [Option.map_none, orZ, Option.getD_none, Option.isSome_none] at hx hk
    subst hx hk
    have HZ := Lib.hid hz
    clear hz
    go_enter Try.func39, Try.ntmps39
    go_wp2_with fail
    refine wp_float [(8, 6, (.cells #[.int .i64 0, .int .i64 0, .slice none 0 0] 25))] [(0, 0), (2, 0), (1, 1), (3, 1), (4, 1), (5, 0), (6, 0), (7, 2)] [9, 10] [9, 10] [7] (by kernel_rfl) (by kernel_rfl) (by kernel_rfl) (fun _ _ d _ _ h => by cases d <;> exact h) (fun _ _ d _ _ h => by cases d <;> exact h) (fun x hx o ho a w => by (obtain rfl := List.mem_singleton.1 hx); (obtain rfl := Option.some.inj ho); (first | rfl | (simp [go_sem, ptrB]; done) | (go_simp; rfl))) ?_
    (refine wpFp_read (v := ?_) rfl ?_ (fun w1 h1 => ?_) ?_; rotate_left 1; rfl; (obtain ⟨os1, d1, rfl⟩ := h1.more; go_simp; first | done | rfl))
    try simp only [Act.put, List.setIfInBounds_toArray, List.set_cons_zero, List.set_cons_succ]
    (refine wpFp_read (v := ?_) rfl ?_ (fun w1 h1 => ?_) ?_; rotate_left 1; rfl; (obtain ⟨os1, d1, rfl⟩ := h1.more; go_simp; first | done | rfl))
    try simp only [Act.put, List.setIfInBounds_toArray, List.set_cons_zero, List.set_cons_succ]
    (refine wpFp_eff rfl ?_ (fun wf hXf hE K hK => ?_); rfl; obtain ⟨osf, df, rfl⟩ := hXf.more; go_simp; refine (refTurn_s a.R a.C A n cap a.l _ (h.ext (by repeat (first | with_reducible exact Ext.refl _ | with_reducible exact hX | with_reducible exact ext_d _ _ _ _ | with_reducible exact ext_app _ _ _ _ _ | ((with_reducible refine ext_suffix ⟨_, ?_⟩); (try simp only [Array.append_assoc]); rfl) | with_reducible apply Ext.drew | with_reducible apply Ext.alloc | with_reducible apply Ext.more_))) ha).mono ?_; rintro e w' ⟨E1, ce1, rfl, hE1, hs1, hb1⟩; refine hK _ _ (fun W => ArrIn W E1 n ce1 (turnL a.R a.C a.l)) hb1 (fun _ _ hx h => h.ext hx) hE1 ?_)
    try simp only [Act.put, List.setIfInBounds_toArray, List.set_cons_zero, List.set_cons_succ]
    (refine wpFp_eff rfl ?_ (fun wf hXf hE K hK => ?_); rfl; obtain ⟨osf, df, rfl⟩ := hXf.more; go_simp; refine (refTurn_s b.R b.C B n' cap' b.l _ (h'.ext (by repeat (first | with_reducible exact Ext.refl _ | with_reducible exact hX | with_reducible exact ext_d _ _ _ _ | with_reducible exact ext_app _ _ _ _ _ | ((with_reducible refine ext_suffix ⟨_, ?_⟩); (try simp only [Array.append_assoc]); rfl) | with_reducible apply Ext.drew | with_reducible apply Ext.alloc | with_reducible apply Ext.more_))) hb).mono ?_; rintro e w' ⟨E2, ce2, rfl, hE2, hs2, hb2⟩; refine hK _ _ (fun W => ArrIn W E1 n ce1 (turnL a.R a.C a.l) ∧ ArrIn W E2 n' ce2 (turnL b.R b.C b.l)) hb2 (fun _ _ hx h => ⟨h.1.ext hx, h.2.ext hx⟩) ⟨hE.ext hb2, hE2⟩ ?_)
    try simp only [Act.put, List.setIfInBounds_toArray, List.set_cons_zero, List.set_cons_succ]
    (refine wpFp_eff rfl ?_ (fun wf hXf hE K hK => ?_); rfl; obtain ⟨osf, df, rfl⟩ := hXf.more; go_simp; refine (refBeside_c ⟨a.C, a.R, turnL a.R a.C a.l⟩ ⟨b.C, b.R, turnL b.R b.C b.l⟩ _ _ _ _ _ _ _ hE.1 hE.2 hra hrb ⟨0, 0, []⟩ false (by rw [HZ.out]; rfl) (by rw [HZ.out]; rfl)).mono ?_; rintro e w' ⟨E3, m4, ce3, rfl, hE3, hs3, hb3⟩; refine hK _ _ (fun _ => True) hb3 (fun _ _ _ _ => trivial) trivial ?_)
    try simp only [Act.put, List.setIfInBounds_toArray, List.set_cons_zero, List.set_cons_succ]
    (refine wpFp_read (v := ?_) rfl ?_ (fun w1 h1 => ?_) ?_; rotate_left 1; rfl; (obtain ⟨os1, d1, rfl⟩ := h1.more; go_simp; first | done | rfl))
    try simp only [Act.put, List.setIfInBounds_toArray, List.set_cons_zero, List.set_cons_succ]
    (refine wpFp_read (v := ?_) rfl ?_ (fun w1 h1 => ?_) ?_; rotate_left 1; rfl; (obtain ⟨os1, d1, rfl⟩ := h1.more; go_simp; first | done | rfl))
    try simp only [Act.put, List.setIfInBounds_toArray, List.set_cons_zero, List.set_cons_succ]
    (refine wpFp_pure (v := ?_) rfl ?_ (fun w1 => ?_) ?_; rotate_left 1; rfl; (go_simp; first | done | rfl))
    try simp only [Act.put, List.setIfInBounds_toArray, List.set_cons_zero, List.set_cons_succ]
    refine wpFp_one fun osa da osb db hE => ?_
    try simp only [Act.put, List.setIfInBounds_toArray, List.set_cons_zero, List.set_cons_succ]
    (refine wpTl_op rfl ?_ (fun K hK => ?_); rfl; go_simp; refine hK _ _ ?_)
    try simp only [Act.put, List.setIfInBounds_toArray, List.set_cons_zero, List.set_cons_succ]
    (refine wpTl_op rfl ?_ (fun K hK => ?_); rfl; go_simp; refine hK _ _ ?_)
    try simp only [Act.put, List.setIfInBounds_toArray, List.set_cons_zero, List.set_cons_succ]
    refine wpTl_nil ?_
    go_wp2
    exact bodyPost_ret (v := .tuple #[AV 0 0 (.slice none 0 0), .bool false]) (by simp [results, Try.results39, go_sem]; done) rfl ⟨none, 0, 0, rfl, ArrIn.none_ _, SlV.nil _ _ _, by repeat (first | with_reducible exact Ext.refl _ | with_reducible exact hX | with_reducible exact ext_d _ _ _ _ | with_reducible exact ext_app _ _ _ _ _ | ((with_reducible refine ext_suffix ⟨_, ?_⟩); (try simp only [Array.append_assoc]); rfl) | with_reducible apply Ext.drew | with_reducible apply Ext.alloc | with_reducible apply Ext.more_)⟩
  | some z =>
    rw [hz] at hx hk
    simp only [Option.map_some, orZ, Option.getD_some, Option.isSome_some] at hx hk
    subst hx hk
    have hrz := beside_right (a := ⟨a.C, a.R, turnL a.R a.C a.l⟩) (b := ⟨b.C, b.R, turnL b.R b.C b.l⟩) hra hrb hz
    have HZ := Lib.hid hz
    clear hz
    go_enter Try.func39, Try.ntmps39
    go_wp2_with fail
    refine wp_float [(8, 6, (.cells #[.int .i64 0, .int .i64 0, .slice none 0 0] 25))] [(0, 0), (2, 0), (1, 1), (3, 1), (4, 1), (5, 0), (6, 0), (7, 2)] [9, 10] [9, 10] [7] (by kernel_rfl) (by kernel_rfl) (by kernel_rfl) (fun _ _ d _ _ h => by cases d <;> exact h) (fun _ _ d _ _ h => by cases d <;> exact h) (fun x hx o ho a w => by (obtain rfl := List.mem_singleton.1 hx); (obtain rfl := Option.some.inj ho); (first | rfl | (simp [go_sem, ptrB]; done) | (go_simp; rfl))) ?_
    (refine wpFp_read (v := ?_) rfl ?_ (fun w1 h1 => ?_) ?_; rotate_left 1; rfl; (obtain ⟨os1, d1, rfl⟩ := h1.more; go_simp; first | done | rfl))
    try simp only [Act.put, List.setIfInBounds_toArray, List.set_cons_zero, List.set_cons_succ]
    (refine wpFp_read (v := ?_) rfl ?_ (fun w1 h1 => ?_) ?_; rotate_left 1; rfl; (obtain ⟨os1, d1, rfl⟩ := h1.more; go_simp; first | done | rfl))
    try simp only [Act.put, List.setIfInBounds_toArray, List.set_cons_zero, List.set_cons_succ]
    (refine wpFp_eff rfl ?_ (fun wf hXf hE K hK => ?_); rfl; obtain ⟨osf, df, rfl⟩ := hXf.more; go_simp; refine (refTurn_s a.R a.C A n cap a.l _ (h.ext (by repeat (first | with_reducible exact Ext.refl _ | with_reducible exact hX | with_reducible exact ext_d _ _ _ _ | with_reducible exact ext_app _ _ _ _ _ | ((with_reducible refine ext_suffix ⟨_, ?_⟩); (try simp only [Array.append_assoc]); rfl) | with_reducible apply Ext.drew | with_reducible apply Ext.alloc | with_reducible apply Ext.more_))) ha).mono ?_; rintro e w' ⟨E1, ce1, rfl, hE1, hs1, hb1⟩; refine hK _ _ (fun W => ArrIn W E1 n ce1 (turnL a.R a.C a.l)) hb1 (fun _ _ hx h => h.ext hx) hE1 ?_)
    try simp only [Act.put, List.setIfInBounds_toArray, List.set_cons_zero, List.set_cons_succ]
    (refine wpFp_eff rfl ?_ (fun wf hXf hE K hK => ?_); rfl; obtain ⟨osf, df, rfl⟩ := hXf.more; go_simp; refine (refTurn_s b.R b.C B n' cap' b.l _ (h'.ext (by repeat (first | with_reducible exact Ext.refl _ | with_reducible exact hX | with_reducible exact ext_d _ _ _ _ | with_reducible exact ext_app _ _ _ _ _ | ((with_reducible refine ext_suffix ⟨_, ?_⟩); (try simp only [Array.append_assoc]); rfl) | with_reducible apply Ext.drew | with_reducible apply Ext.alloc | with_reducible apply Ext.more_))) hb).mono ?_; rintro e w' ⟨E2, ce2, rfl, hE2, hs2, hb2⟩; refine hK _ _ (fun W => ArrIn W E1 n ce1 (turnL a.R a.C a.l) ∧ ArrIn W E2 n' ce2 (turnL b.R b.C b.l)) hb2 (fun _ _ hx h => ⟨h.1.ext hx, h.2.ext hx⟩) ⟨hE.ext hb2, hE2⟩ ?_)
    try simp only [Act.put, List.setIfInBounds_toArray, List.set_cons_zero, List.set_cons_succ]
    (refine wpFp_eff rfl ?_ (fun wf hXf hE K hK => ?_); rfl; obtain ⟨osf, df, rfl⟩ := hXf.more; go_simp; refine (refBeside_c ⟨a.C, a.R, turnL a.R a.C a.l⟩ ⟨b.C, b.R, turnL b.R b.C b.l⟩ _ _ _ _ _ _ _ hE.1 hE.2 hra hrb z true (by rw [HZ.out]; rfl) (by rw [HZ.out]; rfl)).mono ?_; rintro e w' ⟨E3, m4, ce3, rfl, hE3, hs3, hb3⟩; refine hK _ _ (fun W => ArrIn W E3 m4 ce3 z.l) hb3 (fun _ _ hx h => h.ext hx) hE3 ?_)
    try simp only [Act.put, List.setIfInBounds_toArray, List.set_cons_zero, List.set_cons_succ]
    (refine wpFp_read (v := ?_) rfl ?_ (fun w1 h1 => ?_) ?_; rotate_left 1; rfl; (obtain ⟨os1, d1, rfl⟩ := h1.more; go_simp; first | done | rfl))
    try simp only [Act.put, List.setIfInBounds_toArray, List.set_cons_zero, List.set_cons_succ]
    (refine wpFp_read (v := ?_) rfl ?_ (fun w1 h1 => ?_) ?_; rotate_left 1; rfl; (obtain ⟨os1, d1, rfl⟩ := h1.more; go_simp; first | done | rfl))
    try simp only [Act.put, List.setIfInBounds_toArray, List.set_cons_zero, List.set_cons_succ]
    (refine wpFp_pure (v := ?_) rfl ?_ (fun w1 => ?_) ?_; rotate_left 1; rfl; (go_simp; first | done | rfl))
    try simp only [Act.put, List.setIfInBounds_toArray, List.set_cons_zero, List.set_cons_succ]
    refine wpFp_one fun osa da osb db hE => ?_
    try simp only [Act.put, List.setIfInBounds_toArray, List.set_cons_zero, List.set_cons_succ]
    (refine wpTl_op rfl ?_ (fun K hK => ?_); rfl; go_simp; refine hK _ _ ?_)
    try simp only [Act.put, List.setIfInBounds_toArray, List.set_cons_zero, List.set_cons_succ]
    (refine wpTl_op rfl ?_ (fun K hK => ?_); rfl; go_simp; refine hK _ _ ?_)
    try simp only [Act.put, List.setIfInBounds_toArray, List.set_cons_zero, List.set_cons_succ]
    refine wpTl_nil ?_
    have hY := hE.box #[.int .i64 z.R, .int .i64 z.C, .slice E3 m4 ce3] 25 db
    clear hE
    (try simp only [drew_more] at hY)
    go_wp2_with fail
    refine (refTurn_s z.R z.C E3 m4 ce3 z.l _ (hY.ext (by repeat (first | with_reducible exact Ext.refl _ | with_reducible exact hX | with_reducible exact ext_d _ _ _ _ | with_reducible exact ext_app _ _ _ _ _ | ((with_reducible refine ext_suffix ⟨_, ?_⟩); (try simp only [Array.append_assoc]); rfl) | with_reducible apply Ext.drew | with_reducible apply Ext.alloc | with_reducible apply Ext.more_))) hrz).mono ?_
    rintro e w' ⟨F, cf, rfl, hF, hs, hb⟩
    obtain ⟨os5, d5, rfl⟩ := hb.more
    clear hb
    go_wp2
    have hF' := hs
    refine bodyPost_ret (v := .tuple #[AV z.C z.R (.slice F m4 cf), .bool true]) (by simp [results, Try.results39, go_sem]; done) rfl ⟨F, m4, cf, rfl, ⟨?_, hF.len, hF.cap, hF.small, hF.ok⟩, ?_, by repeat (first | with_reducible exact Ext.refl _ | with_reducible exact hX | with_reducible exact ext_d _ _ _ _ | with_reducible exact ext_app _ _ _ _ _ | ((with_reducible refine ext_suffix ⟨_, ?_⟩); (try simp only [Array.append_assoc]); rfl) | with_reducible apply Ext.drew | with_reducible apply Ext.alloc | with_reducible apply Ext.more_)⟩
    · exact (by (try simp only [more_more] at hs); (try simp only [drew_more] at hs); (try simp only [more_drew] at hs); (try simp only [Array.append_assoc] at hs); exact Rd.swap hs (by first | (simp; done) | (simp; omega) | omega) (by first | (simp; done) | (simp; omega) | omega) (by first | (simp; done) | (simp; omega) | omega))
    · exact (by (try simp only [more_more] at hF'); (try simp only [drew_more] at hF'); (try simp only [more_drew] at hF'); (try simp only [Array.append_assoc] at hF'); exact Rd.swap hF' (by first | (simp; done) | (simp; omega) | omega) (by first | (simp; done) | (simp; omega) | omega) (by first | (simp; done) | (simp; omega) | omega))
def commonO (R C R' C' : Nat) : Option (Nat × Nat) := if max R R' * max C C' ≤ 4096 then some (max R R', max C C') else none
theorem max_cast (a b : Nat) : (max (a : Int) (b : Int)) = ((max a b : Nat) : Int) := by omega
theorem common_at {R C R' C' x y : Nat} {k : Bool} (M N : Nat) (hM : M = max R R') (hN : N = max C C') (h1 : 1 ≤ M) (h2 : 1 ≤ N) (hx : ((commonO R C R' C').getD (0, 0)) = (x, y)) (hk : (commonO R C R' C').isSome = k) {fb : Bool} (hfb : fitsB M N = fb) : x = (if fb then M else 0) ∧ y = (if fb then N else 0) ∧ k = fb := by
  subst hM hN
  unfold commonO at hx hk
  by_cases h : max R R' * max C C' ≤ 4096
  · rw [if_pos h] at hx hk
    have : fb = true := by rw [← hfb]; exact fits_nat.2 ⟨h1, h2, h⟩
    subst this
    simp only [Option.getD_some, Prod.mk.injEq, Option.isSome_some] at hx hk
    exact ⟨hx.1.symm, hx.2.symm, hk.symm⟩
  · rw [if_neg h] at hx hk
    have : fb = false := by rw [← hfb]; exact fits_no h1 h2 h
    subst this
    simp only [Option.getD_none, Prod.mk.injEq, Option.isSome_none] at hx hk
    exact ⟨hx.1.symm, hx.2.symm, hk.symm⟩
set_option maxHeartbeats 800000 in
theorem common_c (R C R' C' : Nat) (A B : Option Addr) (n cap n' cap' : Nat) (l l' : List Val) (w : World) (h : ArrIn w A n cap l) (h' : ArrIn w B n' cap' l') (hr : rightA R C l = true) (hr' : rightA R' C' l' = true) (x y : Nat) (k : Bool) (hx : ((commonO R C R' C').getD (0, 0)) = (x, y)) (hk : (commonO R C R' C').isSome = k) :
    Calls Try.prog 37 #[AV R C (.slice A n cap), AV R' C' (.slice B n' cap')] w fun e w' => e = .returned (.tuple #[.int .i64 x, .int .i64 y, .bool k]) ∧ Ext w w' := by
  obtain ⟨r1, r2, r3, r4, r5, r6⟩ := right_bd hr
  obtain ⟨s1, s2, s3, s4, s5, s6⟩ := right_bd hr'
  clear r4 s4
  have HX := Lib.hid hx
  have HK := Lib.hid hk
  clear hx hk
  go_enter Try.func37, Try.ntmps37
  go_wp2_with fail
  refine (right_any _ _ _ _ _ _ _ (h.ext (by repeat (first | with_reducible exact Ext.refl _ | with_reducible exact hX | with_reducible exact ext_d _ _ _ _ | with_reducible exact ext_app _ _ _ _ _ | ((with_reducible refine ext_suffix ⟨_, ?_⟩); (try simp only [Array.append_assoc]); rfl) | with_reducible apply Ext.drew | with_reducible apply Ext.alloc | with_reducible apply Ext.more_)))).mono ?_; rintro e w' ⟨rfl, hb⟩; obtain ⟨os1, d1, rfl⟩ := hb.more; clear hb
  go_wp2_with fail
  refine (right_any _ _ _ _ _ _ _ (h'.ext (by repeat (first | with_reducible exact Ext.refl _ | with_reducible exact hX | with_reducible exact ext_d _ _ _ _ | with_reducible exact ext_app _ _ _ _ _ | ((with_reducible refine ext_suffix ⟨_, ?_⟩); (try simp only [Array.append_assoc]); rfl) | with_reducible apply Ext.drew | with_reducible apply Ext.alloc | with_reducible apply Ext.more_)))).mono ?_; rintro e w' ⟨rfl, hb⟩; obtain ⟨os2, d2, rfl⟩ := hb.more; clear hb
  go_wp2_with fail
  refine wp_plan (S := Ext _) [(0, 0), (1, 0), (2, 0), (3, 0), (4, 0), (5, 0), (6, 0), (7, 0), (8, 0), (9, 0), (10, 0), (11, 0)] [] (by kernel_rfl) (by kernel_rfl) (by kernel_rfl) (fun _ _ d _ _ h => by cases d <;> exact h) (Ext.drew (Ext.refl _)) ?_
  (refine wpPl_read (v := ?_) rfl ?_ (fun w1 h1 => ?_) ?_; rotate_left 1; rfl; (obtain ⟨os1, d1, rfl⟩ := h1.more; go_simp; first | done | rfl))
  try simp only [Act.put, List.setIfInBounds_toArray, List.set_cons_zero, List.set_cons_succ]
  (refine wpPl_read (v := ?_) rfl ?_ (fun w1 h1 => ?_) ?_; rotate_left 1; rfl; (obtain ⟨os1, d1, rfl⟩ := h1.more; go_simp; first | done | rfl))
  try simp only [Act.put, List.setIfInBounds_toArray, List.set_cons_zero, List.set_cons_succ]
  (refine wpPl_read (v := ?_) rfl ?_ (fun w1 h1 => ?_) ?_; rotate_left 1; rfl; (obtain ⟨os1, d1, rfl⟩ := h1.more; go_simp; first | done | rfl))
  try simp only [Act.put, List.setIfInBounds_toArray, List.set_cons_zero, List.set_cons_succ]
  (refine wpPl_read (v := ?_) rfl ?_ (fun w1 h1 => ?_) ?_; rotate_left 1; rfl; (obtain ⟨os1, d1, rfl⟩ := h1.more; go_simp; first | done | rfl))
  try simp only [Act.put, List.setIfInBounds_toArray, List.set_cons_zero, List.set_cons_succ]
  (refine wpPl_read (v := ?_) rfl ?_ (fun w1 h1 => ?_) ?_; rotate_left 1; rfl; (obtain ⟨os1, d1, rfl⟩ := h1.more; go_simp; first | done | rfl))
  try simp only [Act.put, List.setIfInBounds_toArray, List.set_cons_zero, List.set_cons_succ]
  (refine wpPl_read (v := ?_) rfl ?_ (fun w1 h1 => ?_) ?_; rotate_left 1; rfl; (obtain ⟨os1, d1, rfl⟩ := h1.more; go_simp; first | done | rfl))
  try simp only [Act.put, List.setIfInBounds_toArray, List.set_cons_zero, List.set_cons_succ]
  (refine wpPl_read (v := ?_) rfl ?_ (fun w1 h1 => ?_) ?_; rotate_left 1; rfl; (obtain ⟨os1, d1, rfl⟩ := h1.more; go_simp; first | done | rfl))
  try simp only [Act.put, List.setIfInBounds_toArray, List.set_cons_zero, List.set_cons_succ]
  (refine wpPl_read (v := ?_) rfl ?_ (fun w1 h1 => ?_) ?_; rotate_left 1; rfl; (obtain ⟨os1, d1, rfl⟩ := h1.more; go_simp; first | done | rfl))
  try simp only [Act.put, List.setIfInBounds_toArray, List.set_cons_zero, List.set_cons_succ]
  (refine wpPl_read (v := ?_) rfl ?_ (fun w1 h1 => ?_) ?_; rotate_left 1; rfl; (obtain ⟨os1, d1, rfl⟩ := h1.more; go_simp; first | done | rfl))
  try simp only [Act.put, List.setIfInBounds_toArray, List.set_cons_zero, List.set_cons_succ]
  (refine wpPl_read (v := ?_) rfl ?_ (fun w1 h1 => ?_) ?_; rotate_left 1; rfl; (obtain ⟨os1, d1, rfl⟩ := h1.more; go_simp; first | done | rfl))
  try simp only [Act.put, List.setIfInBounds_toArray, List.set_cons_zero, List.set_cons_succ]
  (refine wpPl_read (v := ?_) rfl ?_ (fun w1 h1 => ?_) ?_; rotate_left 1; rfl; (obtain ⟨os1, d1, rfl⟩ := h1.more; go_simp; first | done | rfl))
  try simp only [Act.put, List.setIfInBounds_toArray, List.set_cons_zero, List.set_cons_succ]
  (refine wpPl_read (v := ?_) rfl ?_ (fun w1 h1 => ?_) ?_; rotate_left 1; rfl; (obtain ⟨os1, d1, rfl⟩ := h1.more; go_simp; first | done | rfl))
  try simp only [Act.put, List.setIfInBounds_toArray, List.set_cons_zero, List.set_cons_succ]
  refine wpPl_nil ?_
  go_wp2_with fail
  all_goals
    refine (fits_any _ _ _).mono ?_
    rintro e w' ⟨rfl, rfl⟩
    generalize hfb : fitsB _ _ = fb
    obtain ⟨e1, e2, e3⟩ := common_at _ _ (by omega) (by omega) (by omega) (by omega) HX.out HK.out hfb
    subst e1 e2 e3
    clear HX HK hfb
    cases k
    · go_wp2
      go_ret3
      exact ⟨rfl, by repeat (first | with_reducible exact Ext.refl _ | with_reducible exact hX | with_reducible exact ext_d _ _ _ _ | with_reducible exact ext_app _ _ _ _ _ | ((with_reducible refine ext_suffix ⟨_, ?_⟩); (try simp only [Array.append_assoc]); rfl) | with_reducible apply Ext.drew | with_reducible apply Ext.alloc | with_reducible apply Ext.more_)⟩
    · go_wp2
      go_ret3
      exact ⟨rfl, by repeat (first | with_reducible exact Ext.refl _ | with_reducible exact hX | with_reducible exact ext_d _ _ _ _ | with_reducible exact ext_app _ _ _ _ _ | ((with_reducible refine ext_suffix ⟨_, ?_⟩); (try simp only [Array.append_assoc]); rfl) | with_reducible apply Ext.drew | with_reducible apply Ext.alloc | with_reducible apply Ext.more_)⟩
set_option maxHeartbeats 800000 in
theorem common_no (r c r' c' : Int) (A B : Option Addr) (n cap n' cap' : Nat) (l l' : List Val) (w : World) (h : ArrIn w A n cap l) (h' : ArrIn w B n' cap' l') (hr : (rightA r c l && rightA r' c' l') = false) :
    Calls Try.prog 37 #[AV r c (.slice A n cap), AV r' c' (.slice B n' cap')] w fun e w' => e = .returned (.tuple #[.int .i64 0, .int .i64 0, .bool false]) ∧ Ext w w' := by
  by_cases h1 : rightA r c l = true
  · have h2 : rightA r' c' l' = false := by simpa [h1] using hr
    clear hr
    go_enter Try.func37, Try.ntmps37
    go_wp2_with fail
    refine (right_any _ _ _ _ _ _ _ (h.ext (by repeat (first | with_reducible exact Ext.refl _ | with_reducible exact hX | with_reducible exact ext_d _ _ _ _ | with_reducible exact ext_app _ _ _ _ _ | ((with_reducible refine ext_suffix ⟨_, ?_⟩); (try simp only [Array.append_assoc]); rfl) | with_reducible apply Ext.drew | with_reducible apply Ext.alloc | with_reducible apply Ext.more_)))).mono ?_; rintro e w' ⟨rfl, hb⟩; obtain ⟨os1, d1, rfl⟩ := hb.more; clear hb
    go_wp2_with fail
    refine (right_any _ _ _ _ _ _ _ (h'.ext (by repeat (first | with_reducible exact Ext.refl _ | with_reducible exact hX | with_reducible exact ext_d _ _ _ _ | with_reducible exact ext_app _ _ _ _ _ | ((with_reducible refine ext_suffix ⟨_, ?_⟩); (try simp only [Array.append_assoc]); rfl) | with_reducible apply Ext.drew | with_reducible apply Ext.alloc | with_reducible apply Ext.more_)))).mono ?_; rintro e w' ⟨rfl, hb⟩; obtain ⟨os2, d2, rfl⟩ := hb.more; clear hb
    go_wp2
    go_ret3
    exact ⟨rfl, by repeat (first | with_reducible exact Ext.refl _ | with_reducible exact hX | with_reducible exact ext_d _ _ _ _ | with_reducible exact ext_app _ _ _ _ _ | ((with_reducible refine ext_suffix ⟨_, ?_⟩); (try simp only [Array.append_assoc]); rfl) | with_reducible apply Ext.drew | with_reducible apply Ext.alloc | with_reducible apply Ext.more_)⟩
  · have h1' : rightA r c l = false := by simpa using h1
    clear hr h1
    go_enter Try.func37, Try.ntmps37
    go_wp2_with fail
    refine (right_any _ _ _ _ _ _ _ (h.ext (by repeat (first | with_reducible exact Ext.refl _ | with_reducible exact hX | with_reducible exact ext_d _ _ _ _ | with_reducible exact ext_app _ _ _ _ _ | ((with_reducible refine ext_suffix ⟨_, ?_⟩); (try simp only [Array.append_assoc]); rfl) | with_reducible apply Ext.drew | with_reducible apply Ext.alloc | with_reducible apply Ext.more_)))).mono ?_; rintro e w' ⟨rfl, hb⟩; obtain ⟨os1, d1, rfl⟩ := hb.more; clear hb
    go_wp2
    go_ret3
    exact ⟨rfl, by repeat (first | with_reducible exact Ext.refl _ | with_reducible exact hX | with_reducible exact ext_d _ _ _ _ | with_reducible exact ext_app _ _ _ _ _ | ((with_reducible refine ext_suffix ⟨_, ?_⟩); (try simp only [Array.append_assoc]); rfl) | with_reducible apply Ext.drew | with_reducible apply Ext.alloc | with_reducible apply Ext.more_)⟩
theorem common_ref {R C R' C' x y : Nat} {k : Bool} (M N : Nat) (hM : M = max R R') (hN : N = max C C') (hx : ((commonO R C R' C').getD (0, 0)) = (x, y)) (hk : (commonO R C R' C').isSome = k) : (M * N ≤ 4096 ∧ x = M ∧ y = N ∧ k = true) ∨ (¬ M * N ≤ 4096 ∧ x = 0 ∧ y = 0 ∧ k = false) := by
  subst hM hN
  unfold commonO at hx hk
  by_cases h : max R R' * max C C' ≤ 4096
  · rw [if_pos h] at hx hk
    simp only [Option.getD_some, Prod.mk.injEq, Option.isSome_some] at hx hk
    exact .inl ⟨h, hx.1.symm, hx.2.symm, hk.symm⟩
  · rw [if_neg h] at hx hk
    simp only [Option.getD_none, Prod.mk.injEq, Option.isSome_none] at hx hk
    exact .inr ⟨h, hx.1.symm, hx.2.symm, hk.symm⟩
set_option maxHeartbeats 800000 in
theorem refCommon_c (R C R' C' : Nat) (A B : Option Addr) (n cap n' cap' : Nat) (w : World) (h1 : 1 ≤ R ∧ R ≤ 4096) (h2 : 1 ≤ C ∧ C ≤ 4096) (h3 : 1 ≤ R' ∧ R' ≤ 4096) (h4 : 1 ≤ C' ∧ C' ≤ 4096) (x y : Nat) (k : Bool) (hx : ((commonO R C R' C').getD (0, 0)) = (x, y)) (hk : (commonO R C R' C').isSome = k) :
    Calls Try.prog 40 #[AV R C (.slice A n cap), AV R' C' (.slice B n' cap')] w fun e w' => e = .returned (.tuple #[.int .i64 x, .int .i64 y, .bool k]) ∧ Ext w w' := by
  have hw : ∀ M N : Nat, M ≤ 4096 → N ≤ 4096 → IntKind.i64.wrap ((M : Int) * (N : Int)) = ((M * N : Nat) : Int) := fun M N hM hN => by
    have : M * N ≤ 4096 * 4096 := Nat.mul_le_mul hM hN
    rw [← Int.natCast_mul, IntKind.wrap_i64]; omega
  have HX := Lib.hid hx
  have HK := Lib.hid hk
  have HW := Lib.hid hw
  clear hx hk hw
  have main : ∀ M N : Nat, ((R < R' ∧ M = R') ∨ (¬ R < R' ∧ M = R)) → ((C < C' ∧ N = C') ∨ (¬ C < C' ∧ N = C)) →
      Calls Try.prog 40 #[AV R C (.slice A n cap), AV R' C' (.slice B n' cap')] w fun e w' => e = .returned (.tuple #[.int .i64 x, .int .i64 y, .bool k]) ∧ Ext w w' := by
    intro M N hM hN
    have hw := HW.out M N (by omega) (by omega)
    have hcm := common_ref M N (by omega) (by omega) HX.out HK.out
    clear HX HK HW
    rcases hcm with ⟨hf, rfl, rfl, rfl⟩ | ⟨hf, rfl, rfl, rfl⟩
    · have hf1 : ¬ 4096 < x * y := by omega
      have hf2 : ¬ (4096 : Int) < (x : Int) * (y : Int) := by rw [← Int.natCast_mul]; omega
      clear hf
      rcases hM with ⟨hM, rfl⟩ | ⟨hM, rfl⟩ <;> rcases hN with ⟨hN, rfl⟩ | ⟨hN, rfl⟩
      all_goals
        go_enter Try.func40, Try.ntmps40
        go_wp2
        go_ret3
        exact ⟨rfl, by repeat (first | with_reducible exact Ext.refl _ | with_reducible exact hX | with_reducible exact ext_d _ _ _ _ | with_reducible exact ext_app _ _ _ _ _ | ((with_reducible refine ext_suffix ⟨_, ?_⟩); (try simp only [Array.append_assoc]); rfl) | with_reducible apply Ext.drew | with_reducible apply Ext.alloc | with_reducible apply Ext.more_)⟩
    · have hf1 : 4096 < M * N := by omega
      have hf2 : (4096 : Int) < (M : Int) * (N : Int) := by rw [← Int.natCast_mul]; omega
      clear hf
      rcases hM with ⟨hM, rfl⟩ | ⟨hM, rfl⟩ <;> rcases hN with ⟨hN, rfl⟩ | ⟨hN, rfl⟩
      all_goals
        go_enter Try.func40, Try.ntmps40
        go_wp2
        go_ret3
        exact ⟨rfl, by repeat (first | with_reducible exact Ext.refl _ | with_reducible exact hX | with_reducible exact ext_d _ _ _ _ | with_reducible exact ext_app _ _ _ _ _ | ((with_reducible refine ext_suffix ⟨_, ?_⟩); (try simp only [Array.append_assoc]); rfl) | with_reducible apply Ext.drew | with_reducible apply Ext.alloc | with_reducible apply Ext.more_)⟩
  by_cases hM : R < R' <;> by_cases hN : C < C'
  · exact main R' C' (.inl ⟨hM, rfl⟩) (.inl ⟨hN, rfl⟩)
  · exact main R' C (.inl ⟨hM, rfl⟩) (.inr ⟨hN, rfl⟩)
  · exact main R C' (.inr ⟨hM, rfl⟩) (.inl ⟨hN, rfl⟩)
  · exact main R C (.inr ⟨hM, rfl⟩) (.inr ⟨hN, rfl⟩)
end Go.Proofs.Ytdhdphgecoplbaa
