/- Contracts: Beside, Below, whatever comes; Part. -/
import Derived.Test.YtdhdphgecoplbaaJoinB
namespace Go.Proofs.Ytdhdphgecoplbaa
open Go.RowKit
theorem beside_yes (R C R' C' : Nat) (A B : Option Addr) (n cap n' cap' : Nat) (l l' : List Val) (w : World) (h : ArrIn w A n cap l) (h' : ArrIn w B n' cap' l') (hr : rightA R C l = true) (hr' : rightA R' C' l' = true) (hf : max R R' * (C + C') ≤ 4096) :
    Calls Try.prog 35 #[AV R C (.slice A n cap), AV R' C' (.slice B n' cap')] w fun e w' => ∃ D c, e = .returned (.tuple #[AV (max R R' : Nat) (C + C' : Nat) (.slice D (max R R' * (C + C')) c), .bool true]) ∧ SlV w.heap.size w' D (besideL R C l R' C' l') ∧ max R R' * (C + C') ≤ c ∧ Ext w w' := by
  unfold besideL
  rcases Nat.lt_trichotomy R R' with hlt | rfl | hlt
  · rw [Nat.max_eq_right (Nat.le_of_lt hlt)] at hf ⊢
    exact beside_lt R C R' C' A B n cap n' cap' l l' w h h' hr hr' hlt hf
  · rw [Nat.max_self] at hf ⊢
    exact beside_eq R C C' A B n cap n' cap' l l' w h h' hr hr' hf
  · rw [Nat.max_eq_left (Nat.le_of_lt hlt)] at hf ⊢
    exact beside_gt R C R' C' A B n cap n' cap' l l' w h h' hr hr' hlt hf
theorem below_yes (R C R' C' : Nat) (A B : Option Addr) (n cap n' cap' : Nat) (l l' : List Val) (w : World) (h : ArrIn w A n cap l) (h' : ArrIn w B n' cap' l') (hr : rightA R C l = true) (hr' : rightA R' C' l' = true) (hf : (R + R') * max C C' ≤ 4096) :
    Calls Try.prog 36 #[AV R C (.slice A n cap), AV R' C' (.slice B n' cap')] w fun e w' => ∃ D c, e = .returned (.tuple #[AV (R + R' : Nat) (max C C' : Nat) (.slice D ((R + R') * max C C') c), .bool true]) ∧ SlV w.heap.size w' D (belowL R C l R' C' l') ∧ (R + R') * max C C' ≤ c ∧ Ext w w' := by
  unfold belowL
  rcases Nat.lt_trichotomy C C' with hlt | rfl | hlt
  · rw [Nat.max_eq_right (Nat.le_of_lt hlt)] at hf ⊢
    exact below_lt R C R' C' A B n cap n' cap' l l' w h h' hr hr' hlt hf
  · rw [Nat.max_self] at hf ⊢
    exact below_eq R C R' A B n cap n' cap' l l' w h h' hr hr' hf
  · rw [Nat.max_eq_left (Nat.le_of_lt hlt)] at hf ⊢
    exact below_gt R C R' C' A B n cap n' cap' l l' w h h' hr hr' hlt hf

set_option maxHeartbeats 600000 in
theorem beside_no (r c r' c' : Int) (A B : Option Addr) (n cap n' cap' : Nat) (l l' : List Val) (w : World) (h : ArrIn w A n cap l) (h' : ArrIn w B n' cap' l') (hr : (rightA r c l && rightA r' c' l' && fitsB (max r r') (c + c')) = false) :
    Calls Try.prog 35 #[AV r c (.slice A n cap), AV r' c' (.slice B n' cap')] w fun e w' => e = .returned (.tuple #[AV 0 0 (.slice none 0 0), .bool false]) ∧ Ext w w' := by
  by_cases h1 : rightA r c l = true
  · by_cases h2 : rightA r' c' l' = true
    · have h3 : fitsB (max r r') (c + c') = false := by simpa [h1, h2] using hr
      clear hr
      obtain ⟨R, C, rfl, rfl, r1, r2, r3, r4, _⟩ := right_parts h1
      obtain ⟨R', C', rfl, rfl, s1, s2, s3, s4, _⟩ := right_parts h2
      obtain ⟨_, _, _, _, r5, r6⟩ := right_bd h1
      obtain ⟨_, _, _, _, s5, s6⟩ := right_bd h2
      clear r4 s4
      rcases Nat.lt_trichotomy R R' with hlt | rfl | hlt
      · rw [show max (R : Int) (R' : Int) = R' by omega] at h3
        go_enter Try.func35, Try.ntmps35; go_wp2_with fail; (refine (right_any _ _ _ _ _ _ _ (h.ext (by repeat (first | exact Ext.refl _ | exact ext_app _ _ _ _ _ | exact ext_app2 _ _ _ _ _ _ | apply Ext.drew | apply Ext.alloc | apply Ext.more_)))).mono ?_; rintro e w' ⟨rfl, hb⟩; obtain ⟨os1, d1, rfl⟩ := hb.more; clear hb); go_wp2_with fail; (refine (right_any _ _ _ _ _ _ _ (h'.ext (by repeat (first | exact Ext.refl _ | exact ext_app _ _ _ _ _ | exact ext_app2 _ _ _ _ _ _ | apply Ext.drew | apply Ext.alloc | apply Ext.more_)))).mono ?_; rintro e w' ⟨rfl, hb⟩; obtain ⟨os2, d2, rfl⟩ := hb.more; clear hb); go_wp2_with fail; refine (fits_any _ _ _).mono ?_; rintro e w' ⟨rfl, rfl⟩; go_wp2; exact bodyPost_ret (v := .tuple #[AV 0 0 (.slice none 0 0), .bool false]) (by simp [results, Try.results35, go_sem]; done) rfl ⟨rfl, by repeat (first | exact Ext.refl _ | exact ext_app _ _ _ _ _ | exact ext_app2 _ _ _ _ _ _ | apply Ext.drew | apply Ext.alloc | apply Ext.more_)⟩
      · rw [show max (R : Int) (R : Int) = R by omega] at h3
        go_enter Try.func35, Try.ntmps35; go_wp2_with fail; (refine (right_any _ _ _ _ _ _ _ (h.ext (by repeat (first | exact Ext.refl _ | exact ext_app _ _ _ _ _ | exact ext_app2 _ _ _ _ _ _ | apply Ext.drew | apply Ext.alloc | apply Ext.more_)))).mono ?_; rintro e w' ⟨rfl, hb⟩; obtain ⟨os1, d1, rfl⟩ := hb.more; clear hb); go_wp2_with fail; (refine (right_any _ _ _ _ _ _ _ (h'.ext (by repeat (first | exact Ext.refl _ | exact ext_app _ _ _ _ _ | exact ext_app2 _ _ _ _ _ _ | apply Ext.drew | apply Ext.alloc | apply Ext.more_)))).mono ?_; rintro e w' ⟨rfl, hb⟩; obtain ⟨os2, d2, rfl⟩ := hb.more; clear hb); go_wp2_with fail; refine (fits_any _ _ _).mono ?_; rintro e w' ⟨rfl, rfl⟩; go_wp2; exact bodyPost_ret (v := .tuple #[AV 0 0 (.slice none 0 0), .bool false]) (by simp [results, Try.results35, go_sem]; done) rfl ⟨rfl, by repeat (first | exact Ext.refl _ | exact ext_app _ _ _ _ _ | exact ext_app2 _ _ _ _ _ _ | apply Ext.drew | apply Ext.alloc | apply Ext.more_)⟩
      · rw [show max (R : Int) (R' : Int) = R by omega] at h3
        go_enter Try.func35, Try.ntmps35; go_wp2_with fail; (refine (right_any _ _ _ _ _ _ _ (h.ext (by repeat (first | exact Ext.refl _ | exact ext_app _ _ _ _ _ | exact ext_app2 _ _ _ _ _ _ | apply Ext.drew | apply Ext.alloc | apply Ext.more_)))).mono ?_; rintro e w' ⟨rfl, hb⟩; obtain ⟨os1, d1, rfl⟩ := hb.more; clear hb); go_wp2_with fail; (refine (right_any _ _ _ _ _ _ _ (h'.ext (by repeat (first | exact Ext.refl _ | exact ext_app _ _ _ _ _ | exact ext_app2 _ _ _ _ _ _ | apply Ext.drew | apply Ext.alloc | apply Ext.more_)))).mono ?_; rintro e w' ⟨rfl, hb⟩; obtain ⟨os2, d2, rfl⟩ := hb.more; clear hb); go_wp2_with fail; refine (fits_any _ _ _).mono ?_; rintro e w' ⟨rfl, rfl⟩; go_wp2; exact bodyPost_ret (v := .tuple #[AV 0 0 (.slice none 0 0), .bool false]) (by simp [results, Try.results35, go_sem]; done) rfl ⟨rfl, by repeat (first | exact Ext.refl _ | exact ext_app _ _ _ _ _ | exact ext_app2 _ _ _ _ _ _ | apply Ext.drew | apply Ext.alloc | apply Ext.more_)⟩
    · have h2' : rightA r' c' l' = false := by simpa using h2
      clear hr h2
      go_enter Try.func35, Try.ntmps35
      go_wp2_with fail
      refine (right_any _ _ _ _ _ _ _ (h.ext (by repeat (first | exact Ext.refl _ | exact ext_app _ _ _ _ _ | exact ext_app2 _ _ _ _ _ _ | apply Ext.drew | apply Ext.alloc | apply Ext.more_)))).mono ?_; rintro e w' ⟨rfl, hb⟩; obtain ⟨os1, d1, rfl⟩ := hb.more; clear hb
      go_wp2_with fail
      refine (right_any _ _ _ _ _ _ _ (h'.ext (by repeat (first | exact Ext.refl _ | exact ext_app _ _ _ _ _ | exact ext_app2 _ _ _ _ _ _ | apply Ext.drew | apply Ext.alloc | apply Ext.more_)))).mono ?_; rintro e w' ⟨rfl, hb⟩; obtain ⟨os2, d2, rfl⟩ := hb.more; clear hb
      go_wp2
      exact bodyPost_ret (v := .tuple #[AV 0 0 (.slice none 0 0), .bool false]) (by simp [results, Try.results35, go_sem]; done) rfl ⟨rfl, by repeat (first | exact Ext.refl _ | exact ext_app _ _ _ _ _ | exact ext_app2 _ _ _ _ _ _ | apply Ext.drew | apply Ext.alloc | apply Ext.more_)⟩
  · have h1' : rightA r c l = false := by simpa using h1
    clear hr h1
    go_enter Try.func35, Try.ntmps35
    go_wp2_with fail
    refine (right_any _ _ _ _ _ _ _ (h.ext (by repeat (first | exact Ext.refl _ | exact ext_app _ _ _ _ _ | exact ext_app2 _ _ _ _ _ _ | apply Ext.drew | apply Ext.alloc | apply Ext.more_)))).mono ?_; rintro e w' ⟨rfl, hb⟩; obtain ⟨os1, d1, rfl⟩ := hb.more; clear hb
    go_wp2
    exact bodyPost_ret (v := .tuple #[AV 0 0 (.slice none 0 0), .bool false]) (by simp [results, Try.results35, go_sem]; done) rfl ⟨rfl, by repeat (first | exact Ext.refl _ | exact ext_app _ _ _ _ _ | exact ext_app2 _ _ _ _ _ _ | apply Ext.drew | apply Ext.alloc | apply Ext.more_)⟩
set_option maxHeartbeats 600000 in
theorem below_no (r c r' c' : Int) (A B : Option Addr) (n cap n' cap' : Nat) (l l' : List Val) (w : World) (h : ArrIn w A n cap l) (h' : ArrIn w B n' cap' l') (hr : (rightA r c l && rightA r' c' l' && fitsB (r + r') (max c c')) = false) :
    Calls Try.prog 36 #[AV r c (.slice A n cap), AV r' c' (.slice B n' cap')] w fun e w' => e = .returned (.tuple #[AV 0 0 (.slice none 0 0), .bool false]) ∧ Ext w w' := by
  by_cases h1 : rightA r c l = true
  · by_cases h2 : rightA r' c' l' = true
    · have h3 : fitsB (r + r') (max c c') = false := by simpa [h1, h2] using hr
      clear hr
      obtain ⟨R, C, rfl, rfl, r1, r2, r3, r4, _⟩ := right_parts h1
      obtain ⟨R', C', rfl, rfl, s1, s2, s3, s4, _⟩ := right_parts h2
      obtain ⟨_, _, _, _, r5, r6⟩ := right_bd h1
      obtain ⟨_, _, _, _, s5, s6⟩ := right_bd h2
      clear r4 s4
      rcases Nat.lt_trichotomy C C' with hlt | rfl | hlt
      · rw [show max (C : Int) (C' : Int) = C' by omega] at h3
        go_enter Try.func36, Try.ntmps36; go_wp2_with fail; (refine (right_any _ _ _ _ _ _ _ (h.ext (by repeat (first | exact Ext.refl _ | exact ext_app _ _ _ _ _ | exact ext_app2 _ _ _ _ _ _ | apply Ext.drew | apply Ext.alloc | apply Ext.more_)))).mono ?_; rintro e w' ⟨rfl, hb⟩; obtain ⟨os1, d1, rfl⟩ := hb.more; clear hb); go_wp2_with fail; (refine (right_any _ _ _ _ _ _ _ (h'.ext (by repeat (first | exact Ext.refl _ | exact ext_app _ _ _ _ _ | exact ext_app2 _ _ _ _ _ _ | apply Ext.drew | apply Ext.alloc | apply Ext.more_)))).mono ?_; rintro e w' ⟨rfl, hb⟩; obtain ⟨os2, d2, rfl⟩ := hb.more; clear hb); go_wp2_with fail; refine (fits_any _ _ _).mono ?_; rintro e w' ⟨rfl, rfl⟩; go_wp2; exact bodyPost_ret (v := .tuple #[AV 0 0 (.slice none 0 0), .bool false]) (by simp [results, Try.results36, go_sem]; done) rfl ⟨rfl, by repeat (first | exact Ext.refl _ | exact ext_app _ _ _ _ _ | exact ext_app2 _ _ _ _ _ _ | apply Ext.drew | apply Ext.alloc | apply Ext.more_)⟩
      · rw [show max (C : Int) (C : Int) = C by omega] at h3
        go_enter Try.func36, Try.ntmps36; go_wp2_with fail; (refine (right_any _ _ _ _ _ _ _ (h.ext (by repeat (first | exact Ext.refl _ | exact ext_app _ _ _ _ _ | exact ext_app2 _ _ _ _ _ _ | apply Ext.drew | apply Ext.alloc | apply Ext.more_)))).mono ?_; rintro e w' ⟨rfl, hb⟩; obtain ⟨os1, d1, rfl⟩ := hb.more; clear hb); go_wp2_with fail; (refine (right_any _ _ _ _ _ _ _ (h'.ext (by repeat (first | exact Ext.refl _ | exact ext_app _ _ _ _ _ | exact ext_app2 _ _ _ _ _ _ | apply Ext.drew | apply Ext.alloc | apply Ext.more_)))).mono ?_; rintro e w' ⟨rfl, hb⟩; obtain ⟨os2, d2, rfl⟩ := hb.more; clear hb); go_wp2_with fail; refine (fits_any _ _ _).mono ?_; rintro e w' ⟨rfl, rfl⟩; go_wp2; exact bodyPost_ret (v := .tuple #[AV 0 0 (.slice none 0 0), .bool false]) (by simp [results, Try.results36, go_sem]; done) rfl ⟨rfl, by repeat (first | exact Ext.refl _ | exact ext_app _ _ _ _ _ | exact ext_app2 _ _ _ _ _ _ | apply Ext.drew | apply Ext.alloc | apply Ext.more_)⟩
      · rw [show max (C : Int) (C' : Int) = C by omega] at h3
        go_enter Try.func36, Try.ntmps36; go_wp2_with fail; (refine (right_any _ _ _ _ _ _ _ (h.ext (by repeat (first | exact Ext.refl _ | exact ext_app _ _ _ _ _ | exact ext_app2 _ _ _ _ _ _ | apply Ext.drew | apply Ext.alloc | apply Ext.more_)))).mono ?_; rintro e w' ⟨rfl, hb⟩; obtain ⟨os1, d1, rfl⟩ := hb.more; clear hb); go_wp2_with fail; (refine (right_any _ _ _ _ _ _ _ (h'.ext (by repeat (first | exact Ext.refl _ | exact ext_app _ _ _ _ _ | exact ext_app2 _ _ _ _ _ _ | apply Ext.drew | apply Ext.alloc | apply Ext.more_)))).mono ?_; rintro e w' ⟨rfl, hb⟩; obtain ⟨os2, d2, rfl⟩ := hb.more; clear hb); go_wp2_with fail; refine (fits_any _ _ _).mono ?_; rintro e w' ⟨rfl, rfl⟩; go_wp2; exact bodyPost_ret (v := .tuple #[AV 0 0 (.slice none 0 0), .bool false]) (by simp [results, Try.results36, go_sem]; done) rfl ⟨rfl, by repeat (first | exact Ext.refl _ | exact ext_app _ _ _ _ _ | exact ext_app2 _ _ _ _ _ _ | apply Ext.drew | apply Ext.alloc | apply Ext.more_)⟩
    · have h2' : rightA r' c' l' = false := by simpa using h2
      clear hr h2
      go_enter Try.func36, Try.ntmps36
      go_wp2_with fail
      refine (right_any _ _ _ _ _ _ _ (h.ext (by repeat (first | exact Ext.refl _ | exact ext_app _ _ _ _ _ | exact ext_app2 _ _ _ _ _ _ | apply Ext.drew | apply Ext.alloc | apply Ext.more_)))).mono ?_; rintro e w' ⟨rfl, hb⟩; obtain ⟨os1, d1, rfl⟩ := hb.more; clear hb
      go_wp2_with fail
      refine (right_any _ _ _ _ _ _ _ (h'.ext (by repeat (first | exact Ext.refl _ | exact ext_app _ _ _ _ _ | exact ext_app2 _ _ _ _ _ _ | apply Ext.drew | apply Ext.alloc | apply Ext.more_)))).mono ?_; rintro e w' ⟨rfl, hb⟩; obtain ⟨os2, d2, rfl⟩ := hb.more; clear hb
      go_wp2
      exact bodyPost_ret (v := .tuple #[AV 0 0 (.slice none 0 0), .bool false]) (by simp [results, Try.results36, go_sem]; done) rfl ⟨rfl, by repeat (first | exact Ext.refl _ | exact ext_app _ _ _ _ _ | exact ext_app2 _ _ _ _ _ _ | apply Ext.drew | apply Ext.alloc | apply Ext.more_)⟩
  · have h1' : rightA r c l = false := by simpa using h1
    clear hr h1
    go_enter Try.func36, Try.ntmps36
    go_wp2_with fail
    refine (right_any _ _ _ _ _ _ _ (h.ext (by repeat (first | exact Ext.refl _ | exact ext_app _ _ _ _ _ | exact ext_app2 _ _ _ _ _ _ | apply Ext.drew | apply Ext.alloc | apply Ext.more_)))).mono ?_; rintro e w' ⟨rfl, hb⟩; obtain ⟨os1, d1, rfl⟩ := hb.more; clear hb
    go_wp2
    exact bodyPost_ret (v := .tuple #[AV 0 0 (.slice none 0 0), .bool false]) (by simp [results, Try.results36, go_sem]; done) rfl ⟨rfl, by repeat (first | exact Ext.refl _ | exact ext_app _ _ _ _ _ | exact ext_app2 _ _ _ _ _ _ | apply Ext.drew | apply Ext.alloc | apply Ext.more_)⟩
end Go.Proofs.Ytdhdphgecoplbaa
