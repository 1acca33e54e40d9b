/- Contracts of the small functions on numbers: num.size, num.count, num.Right. -/
import Derived.Test.YtihfiegopnjeiaaDoorProg
import Derived.Test.YtihfiegopnjeiaaDoorPlain
import Derived.Test.YtihfiegopnjeiaaDoorRegion
namespace Go.Proofs.YtihfiegopnjeiaaDoor
set_option linter.unusedSimpArgs false
set_option linter.unusedVariables false
open Go.RowKit

theorem ret_int {k : IntKind} {a b : Int} (h : a = b) : Ending.returned (.int k a) = .returned (.int k b) := by rw [h]
theorem ret_bool {a b : Bool} (h : a = b) : Ending.returned (.bool a) = .returned (.bool b) := by rw [h]

set_option maxHeartbeats 400000 in
theorem size_any (n : Int) (w : World) (h : I64 n) :
    Calls Tryd.prog 49 #[.int .i64 n] w fun e w' => e = .returned (.int .u64 (sizeI n)) ∧ w = w' := by
  obtain ⟨h1, h2⟩ := h
  by_cases hn : n < 0
  · go_enter Tryd.func49, Tryd.ntmps49
    go_wp2
    go_ret
    refine ⟨ret_int ?_, rfl⟩
    simp only [sizeI, hn, if_true, IntKind.wrap_u64]
    omega
  · go_enter Tryd.func49, Tryd.ntmps49
    go_wp2
    go_ret
    refine ⟨ret_int ?_, rfl⟩
    simp only [sizeI]; rw [if_neg (by omega)]

set_option maxHeartbeats 400000 in
theorem count_any (n : Int) (w : World) (h : 0 ≤ n) (h' : n < 18446744073709551616) :
    Calls Tryd.prog 52 #[.int .u64 n] w fun e w' => e = .returned (.int .i64 (countI n)) ∧ w = w' := by
  obtain ⟨n, rfl⟩ := Int.eq_ofNat_of_zero_le h
  have hb := cnt_bd n (by omega)
  have hc : countI (n : Int) = cnt n := by simp [countI]
  rw [hc]
  clear hc
  have HL : Hid (n < 18446744073709551616) := by show _ < _; omega
  clear h h'
  generalize hN : cnt n = N at *
  have HN := Lib.hid hN
  clear hN
  go_enter Tryd.func52, Tryd.ntmps52
  go_wp2
  go_loop [0, 3] (fun a d => ∃ q c : Nat, Hid (q < 18446744073709551616) ∧ c ≤ 20 ∧ a = .int .u64 q ∧ d = .int .i64 c ∧ Hid (c + cnt q = 1 + N)) (fun a _ => (intOf a).toNat)
  case atStart => exact ⟨n, 1, HL, by omega, rfl, rfl, by show _ = _; rw [HN.out]⟩
  case round =>
    obtain ⟨q, c, hq, hc, rfl, rfl, H⟩ := hrel
    by_cases hlt : 10 ≤ q
    · have h1 := cnt_bd (q / 10) (by have := hq.out; omega)
      have h2 : c + 1 ≤ 20 := by have := H.out; rw [cnt_ge hlt] at this; omega
      have e1 : IntKind.u64.wrap ((q : Int) / 10) = (q : Int) / 10 := by rw [IntKind.wrap_u64]; have := hq.out; omega
      go_wp2
      go_round
      case rel => exact ⟨q / 10, c + 1, by show _ < _; have := hq.out; omega, by omega, by go_num, by go_num, by show _ = _; have := H.out; rw [cnt_ge hlt] at this; omega⟩
      case measure => simp [intOf]; omega
    · have h2 : c = N := by have := H.out; rw [cnt_lt (by omega)] at this; omega
      subst h2
      go_wp2
      go_ret
      exact ⟨rfl, rfl⟩




set_option maxHeartbeats 400000 in
theorem numRight_any (m ex : Int) (w : World) (h : I64 m) :
    Calls Tryd.prog 17 #[NV m ex] w fun e w' => e = .returned (.bool (numRightB m ex)) ∧ Ext w w' := by
  have hs := sizeI_bd h
  have hc' : 1 ≤ countI (sizeI m) ∧ countI (sizeI m) ≤ 20 := by have hc := cnt_bd (sizeI m).toNat (by omega); unfold countI; omega
  by_cases h0 : m = 0
  · have e : numRightB m ex = (ex == 0) := by simp [numRightB, h0]
    rw [e]
    have h0 : (m == 0) = true := by simp [h0]
    go_enter Tryd.func17, Tryd.ntmps17
    go_wp2
    go_ret
    exact ⟨rfl, by repeat (first | exact Ext.refl _ | apply Ext.drew | apply Ext.alloc | apply Ext.more_)⟩
  · have h0' : (m == 0) = false := by simp [h0]
    by_cases h1 : 1000000000000000 ≤ sizeI m
    · have e : numRightB m ex = false := by simp [numRightB, h0, h1]
      rw [e]; clear h0 e
      go_enter Tryd.func17, Tryd.ntmps17; go_wp2_with (go_at_call 49; refine (size_any _ _ h).mono ?_; rintro e w' ⟨rfl, rfl⟩); go_ret; exact ⟨rfl, by repeat (first | exact Ext.refl _ | apply Ext.drew | apply Ext.alloc | apply Ext.more_)⟩
    · by_cases h2 : sizeI m % 10 = 0
      · have e : numRightB m ex = false := by simp [numRightB, h0, h1, h2]
        rw [e]; clear h0 e
        have h2 : (sizeI m % 10 == 0) = true := by simp [h2]
        go_enter Tryd.func17, Tryd.ntmps17; go_wp2_with (go_at_call 49; refine (size_any _ _ h).mono ?_; rintro e w' ⟨rfl, rfl⟩); go_ret; exact ⟨rfl, by repeat (first | exact Ext.refl _ | apply Ext.drew | apply Ext.alloc | apply Ext.more_)⟩
      · have h2' : (sizeI m % 10 == 0) = false := by simp [h2]
        by_cases h3 : ex < -40
        · have e : numRightB m ex = false := by simp [numRightB, h0, h1, h2, h3]
          rw [e]; clear h0 h2 e
          go_enter Tryd.func17, Tryd.ntmps17; go_wp2_with (go_at_call 49; refine (size_any _ _ h).mono ?_; rintro e w' ⟨rfl, rfl⟩); go_ret; exact ⟨rfl, by repeat (first | exact Ext.refl _ | apply Ext.drew | apply Ext.alloc | apply Ext.more_)⟩
        · by_cases h4 : 40 ≤ ex
          · have e : numRightB m ex = false := by simp [numRightB, h0, h1, h2, h3, h4]
            rw [e]; clear h0 h2 e
            go_enter Tryd.func17, Tryd.ntmps17; go_wp2_with (go_at_call 49; refine (size_any _ _ h).mono ?_; rintro e w' ⟨rfl, rfl⟩); go_ret; exact ⟨rfl, by repeat (first | exact Ext.refl _ | apply Ext.drew | apply Ext.alloc | apply Ext.more_)⟩
          · have e : numRightB m ex = decide (countI (sizeI m) + ex ≤ 40) := by simp [numRightB, h0, h1, h2, h3, h4]
            rw [e]; clear h0 h2 e
            have hw : IntKind.i64.wrap (countI (sizeI m) + ex) = countI (sizeI m) + ex := by rw [IntKind.wrap_i64]; omega
            go_enter Tryd.func17, Tryd.ntmps17
            go_wp2_with (go_at_call 49; refine (size_any _ _ h).mono ?_; rintro e w' ⟨rfl, rfl⟩)
            go_region_held3 (fun w' => w'.cell? ⟨w.heap.size, 1, none⟩ = some (.int .i64 ex)) (go_keep) (first | (go_at_call 52; refine (count_any _ _ (by omega) (by omega)).mono ?_; rintro e w' ⟨rfl, rfl⟩))
            go_wp2
            go_ret
            exact ⟨rfl, by repeat (first | exact Ext.refl _ | apply Ext.drew | apply Ext.alloc | apply Ext.more_)⟩

end Go.Proofs.YtihfiegopnjeiaaDoor
