/- counterpaneref01.Make. -/
import Derived.Test.YtihfiegopnjeiaaDoorNear
namespace Go.Proofs.YtihfiegopnjeiaaDoor
set_option linter.unusedSimpArgs false
set_option linter.unusedVariables false
open Go.RowKit NM

theorem digs_dig (n : Nat) : digs n = dig n := by
  induction n using Nat.strongRecOn with
  | ind n ih =>
    by_cases h : n = 0
    · subst h; rw [digs_zero, dig_zero]
    · rw [digs_pos h, dig_pos h, ih (n / 10) (by omega)]
theorem SlI.i6_ {base : Nat} {w : World} {A : Option Addr} {n : Int} (h : SlI base w A (digsI n)) : Rd base w A (i6 (dig n.natAbs)) := by
  unfold SlI digsI at h
  rw [digs_dig, List.map_map] at h
  exact h
/-- digits, with its room. -/
theorem rdigits (n : Int) (w : World) (h : I64 n) :
    Calls Tryd.prog 51 #[.int .i64 n] w fun e w' => ∃ A c, e = .returned (.slice A (nd n.natAbs) c) ∧ Rd w.heap.size w' A (i6 (dig n.natAbs)) ∧ nd n.natAbs ≤ c ∧ Ext w w' := by
  have hl : (digsI n).length = nd n.natAbs := by unfold digsI; rw [List.length_map, digs_dig, dig_length]
  refine (digits_any n w h).mono fun e w' ⟨A, c, h1, h2, h3, h4⟩ => ⟨A, c, ?_, h2.i6_, by omega, h3⟩
  rw [← hl]; exact h1
theorem rnd_far_down {neg : Bool} {N : Nat} {e : Int} (h : (nd N : Int) + e < -41) : rnd neg N false e = some (0, 0) := by
  apply rnd_of_zero
  unfold n2
  apply cutN_far
  by_cases h15 : nd N ≤ 15
  · have : n1 N false = N := by unfold n1; rw [show nd N - 15 = 0 by omega, cutN_zero]
    rw [this, show nd N - 15 = 0 by omega]; omega
  · have := (nd_le_iff (n1 N false) 16).2 (Nat.lt_of_le_of_lt (n1_le N false) (T_lt (by omega)))
    omega
set_option maxRecDepth 100000 in
set_option maxHeartbeats 1000000 in
theorem rmake_any (m ex : Int) (w : World) (hm : I64 m) :
    Calls Tryd.prog 16 #[.int .i64 m, .int .i64 ex] w fun e w' => e = .returned (rnV (rnd (decide (m < 0)) m.natAbs false ex)) ∧ Ext w w' := by
  by_cases h0 : m = 0
  · subst h0
    have hr : rnd (decide ((0 : Int) < 0)) (0 : Int).natAbs false ex = some (0, 0) := rnd_of_zero (n2_zero _ _)
    rw [hr]
    go_enter Tryd.func16, Tryd.ntmps16
    go_wp2
    exact bodyPost_ret (v := .tuple #[NV 0 0, .bool true]) (by simp [results, Tryd.results16, go_sem]; done) rfl ⟨rfl, by repeat (first | exact Ext.refl _ | apply Ext.drew | apply Ext.alloc | apply Ext.more_)⟩
  · have h0' : (m == 0) = false := by simp [h0]
    by_cases h1 : 100 < ex
    · rw [rnd_far_up (by omega) (by omega)]
      clear h0
      go_enter Tryd.func16, Tryd.ntmps16
      go_wp2
      exact bodyPost_ret (v := .tuple #[NV 0 0, .bool false]) (by simp [results, Tryd.results16, go_sem]; done) rfl ⟨rfl, by repeat (first | exact Ext.refl _ | apply Ext.drew | apply Ext.alloc | apply Ext.more_)⟩
    · have hnd : nd m.natAbs ≤ 20 := (nd_le_iff _ _).2 (Nat.lt_of_lt_of_le (show m.natAbs < 18446744073709551616 by obtain ⟨h1, h2⟩ := hm; omega) (by decide))
      by_cases h2 : ex < -100
      · rw [rnd_far_down (by omega)]
        clear h0
        go_enter Tryd.func16, Tryd.ntmps16
        go_wp2
        exact bodyPost_ret (v := .tuple #[NV 0 0, .bool true]) (by simp [results, Tryd.results16, go_sem]; done) rfl ⟨rfl, by repeat (first | exact Ext.refl _ | apply Ext.drew | apply Ext.alloc | apply Ext.more_)⟩
      · clear h0
        have HA := Lib.hid (dig_all m.natAbs)
        have HL := Lib.hid (dig_length m.natAbs)
        have HV := Lib.hid (val_dig m.natAbs)
        go_enter Tryd.func16, Tryd.ntmps16
        go_wp2_with (first | (go_at_call 51; refine (rdigits m _ hm).mono ?_; rintro e w' ⟨A, c, rfl, hr, hc, hx⟩; obtain ⟨os, d, rfl⟩ := hx.more) | (go_at_call 50; refine (near_any _ _ _ _ _ (dig m.natAbs) m.natAbs _ _ _ HL.out hr hc (by omega) HA.out HV.out (by omega) (by simp)).mono ?_; rintro e w' ⟨rfl, hx2⟩; obtain ⟨os2, d2, rfl⟩ := hx2.more))
        exact bodyPost_ret (v := rnV (rnd (decide (m < 0)) m.natAbs false ex)) (by simp [results, Tryd.results16, go_sem]; done) rfl ⟨rfl, by repeat (first | exact Ext.refl _ | apply Ext.drew | apply Ext.alloc | apply Ext.more_)⟩
end Go.Proofs.YtihfiegopnjeiaaDoor
