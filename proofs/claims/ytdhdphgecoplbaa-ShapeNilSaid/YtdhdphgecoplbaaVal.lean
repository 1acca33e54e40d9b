/- Contracts of the functions on single values: layers num, value and their references, as far as arrays need them. -/
import Derived.Test.YtdhdphgecoplbaaProg
import Derived.Test.YtdhdphgecoplbaaPlain
import Derived.Test.YtdhdphgecoplbaaRegion
namespace Go.Proofs.Ytdhdphgecoplbaa
open Go.RowKit

theorem eql_val (k1 m1 e1 f1 k2 m2 e2 f2 : Int) (t1 t2 : ByteArray) (b1 b2 : Bool) (w : World) : (binOp .eql 34 (VV k1 m1 e1 t1 b1 f1) (VV k2 m2 e2 t2 b2 f2)).run Try.prog w = .ok (.bool (eqV ⟨k1, m1, e1, t1, b1, f1⟩ ⟨k2, m2, e2, t2, b2, f2⟩)) w := by
  have ht : (t1.toList = t2.toList) ↔ t1 = t2 := ⟨fun h => by
    cases t1; cases t2
    rename_i a b
    have : a.toList = b.toList := by simpa [ByteArray.toList_eq] using h
    simpa using this, fun h => by rw [h]⟩
  simp only [VV, eqV]
  simp [go_sem, ht]
  by_cases h1 : k1 = k2 <;> simp [h1]
  by_cases h2 : m1 = m2 <;> simp [h2]
  by_cases h3 : e1 = e2 <;> simp [h3]
  by_cases h4 : t1 = t2 <;> simp [h4]
  by_cases h5 : b1 = b2 <;> simp [h5]
  by_cases h6 : f1 = f2 <;> simp [h6]

theorem ret_int {k : IntKind} {a b : Int} (h : a = b) : Ending.returned (.int k a) = .returned (.int k b) := by rw [h]
theorem ret_bool {a b : Bool} (h : a = b) : Ending.returned (.bool a) = .returned (.bool b) := by rw [h]

set_option maxHeartbeats 400000 in
theorem size_any (n : Int) (w : World) (h : I64 n) :
    Calls Try.prog 73 #[.int .i64 n] w fun e w' => e = .returned (.int .u64 (sizeI n)) ∧ w = w' := by
  obtain ⟨h1, h2⟩ := h
  by_cases hn : n < 0
  · go_enter Try.func73, Try.ntmps73
    go_wp2
    go_ret
    refine ⟨ret_int ?_, rfl⟩
    simp only [sizeI, hn, if_true, IntKind.wrap_u64]
    omega
  · go_enter Try.func73, Try.ntmps73
    go_wp2
    go_ret
    refine ⟨ret_int ?_, rfl⟩
    simp only [sizeI]; rw [if_neg (by omega)]

set_option maxHeartbeats 400000 in
theorem count_any (n : Int) (w : World) (h : 0 ≤ n) (h' : n < 18446744073709551616) :
    Calls Try.prog 74 #[.int .u64 n] w fun e w' => e = .returned (.int .i64 (countI n)) ∧ w = w' := by
  obtain ⟨n, rfl⟩ := Int.eq_ofNat_of_zero_le h
  have hb := cnt_bd n (by omega)
  have hc : countI (n : Int) = cnt n := by simp [countI]
  rw [hc]
  clear hc
  have HL : Hid (n < 18446744073709551616) := by show _ < _; omega
  clear h h'
  generalize hN : cnt n = N at *
  have HN := Lib.hid hN
  clear hN
  go_enter Try.func74, Try.ntmps74
  go_wp2
  go_loop [0, 3] (fun a d => ∃ q c : Nat, Hid (q < 18446744073709551616) ∧ c ≤ 20 ∧ a = .int .u64 q ∧ d = .int .i64 c ∧ Hid (c + cnt q = 1 + N)) (fun a _ => (intOf a).toNat)
  case atStart => exact ⟨n, 1, HL, by omega, rfl, rfl, by show _ = _; rw [HN.out]⟩
  case round =>
    obtain ⟨q, c, hq, hc, rfl, rfl, H⟩ := hrel
    by_cases hlt : 10 ≤ q
    · have h1 := cnt_bd (q / 10) (by have := hq.out; omega)
      have h2 : c + 1 ≤ 20 := by have := H.out; rw [cnt_ge hlt] at this; omega
      have e1 : IntKind.u64.wrap ((q : Int) / 10) = (q : Int) / 10 := by rw [IntKind.wrap_u64]; have := hq.out; omega
      go_wp2
      go_round
      case rel => exact ⟨q / 10, c + 1, by show _ < _; have := hq.out; omega, by omega, by go_num, by go_num, by show _ = _; have := H.out; rw [cnt_ge hlt] at this; omega⟩
      case measure => simp [intOf]; omega
    · have h2 : c = N := by have := H.out; rw [cnt_lt (by omega)] at this; omega
      subst h2
      go_wp2
      go_ret
      exact ⟨rfl, rfl⟩




set_option maxHeartbeats 400000 in
theorem numRight_any (m ex : Int) (w : World) (h : I64 m) :
    Calls Try.prog 68 #[NV m ex] w fun e w' => e = .returned (.bool (numRightB m ex)) ∧ Ext w w' := by
  have hs := sizeI_bd h
  have hc' : 1 ≤ countI (sizeI m) ∧ countI (sizeI m) ≤ 20 := by have hc := cnt_bd (sizeI m).toNat (by omega); unfold countI; omega
  by_cases h0 : m = 0
  · have e : numRightB m ex = (ex == 0) := by simp [numRightB, h0]
    rw [e]
    have h0 : (m == 0) = true := by simp [h0]
    go_enter Try.func68, Try.ntmps68
    go_wp2
    go_ret
    exact ⟨rfl, by repeat (first | exact Ext.refl _ | apply Ext.drew | apply Ext.alloc | apply Ext.more_)⟩
  · have h0' : (m == 0) = false := by simp [h0]
    by_cases h1 : 1000000000000000 ≤ sizeI m
    · have e : numRightB m ex = false := by simp [numRightB, h0, h1]
      rw [e]; clear h0 e
      go_enter Try.func68, Try.ntmps68; go_wp2_with (go_at_call 73; refine (size_any _ _ h).mono ?_; rintro e w' ⟨rfl, rfl⟩); go_ret; exact ⟨rfl, by repeat (first | exact Ext.refl _ | apply Ext.drew | apply Ext.alloc | apply Ext.more_)⟩
    · by_cases h2 : sizeI m % 10 = 0
      · have e : numRightB m ex = false := by simp [numRightB, h0, h1, h2]
        rw [e]; clear h0 e
        have h2 : (sizeI m % 10 == 0) = true := by simp [h2]
        go_enter Try.func68, Try.ntmps68; go_wp2_with (go_at_call 73; refine (size_any _ _ h).mono ?_; rintro e w' ⟨rfl, rfl⟩); go_ret; exact ⟨rfl, by repeat (first | exact Ext.refl _ | apply Ext.drew | apply Ext.alloc | apply Ext.more_)⟩
      · have h2' : (sizeI m % 10 == 0) = false := by simp [h2]
        by_cases h3 : ex < -40
        · have e : numRightB m ex = false := by simp [numRightB, h0, h1, h2, h3]
          rw [e]; clear h0 h2 e
          go_enter Try.func68, Try.ntmps68; go_wp2_with (go_at_call 73; refine (size_any _ _ h).mono ?_; rintro e w' ⟨rfl, rfl⟩); go_ret; exact ⟨rfl, by repeat (first | exact Ext.refl _ | apply Ext.drew | apply Ext.alloc | apply Ext.more_)⟩
        · by_cases h4 : 40 ≤ ex
          · have e : numRightB m ex = false := by simp [numRightB, h0, h1, h2, h3, h4]
            rw [e]; clear h0 h2 e
            go_enter Try.func68, Try.ntmps68; go_wp2_with (go_at_call 73; refine (size_any _ _ h).mono ?_; rintro e w' ⟨rfl, rfl⟩); go_ret; exact ⟨rfl, by repeat (first | exact Ext.refl _ | apply Ext.drew | apply Ext.alloc | apply Ext.more_)⟩
          · have e : numRightB m ex = decide (countI (sizeI m) + ex ≤ 40) := by simp [numRightB, h0, h1, h2, h3, h4]
            rw [e]; clear h0 h2 e
            have hw : IntKind.i64.wrap (countI (sizeI m) + ex) = countI (sizeI m) + ex := by rw [IntKind.wrap_i64]; omega
            go_enter Try.func68, Try.ntmps68
            go_wp2_with (go_at_call 73; refine (size_any _ _ h).mono ?_; rintro e w' ⟨rfl, rfl⟩)
            go_region_held3 (fun w' => w'.cell? ⟨w.heap.size, 1, none⟩ = some (.int .i64 ex)) (go_keep) (first | (go_at_call 74; refine (count_any _ _ (by omega) (by omega)).mono ?_; rintro e w' ⟨rfl, rfl⟩))
            go_wp2
            go_ret
            exact ⟨rfl, by repeat (first | exact Ext.refl _ | apply Ext.drew | apply Ext.alloc | apply Ext.more_)⟩

set_option maxHeartbeats 400000 in
theorem bad_any (f : Int) (w : World) :
    Calls Try.prog 56 #[.int .i64 f] w fun e w' => e = .returned (VV 4 0 0 ⟨#[]⟩ false (badF f)) ∧ Ext w w' := by
  by_cases h : f < 1 ∨ 9 < f
  · have hb : badF f = 9 := by simp [badF, h]
    rw [hb]
    rcases h with h | h
    · go_enter Try.func56, Try.ntmps56
      go_wp2
      exact bodyPost_ret (v := VV 4 0 0 ⟨#[]⟩ false 9) (by simp [results, Try.results56, go_sem]; done) rfl ⟨rfl, by repeat (first | exact Ext.refl _ | apply Ext.drew | apply Ext.alloc | apply Ext.more_)⟩
    · have h1 : ¬ f < 1 := by omega
      go_enter Try.func56, Try.ntmps56
      go_wp2
      exact bodyPost_ret (v := VV 4 0 0 ⟨#[]⟩ false 9) (by simp [results, Try.results56, go_sem]; done) rfl ⟨rfl, by repeat (first | exact Ext.refl _ | apply Ext.drew | apply Ext.alloc | apply Ext.more_)⟩
  · have hb : badF f = f := by simp [badF, h]
    rw [hb]
    have h1 : ¬ f < 1 := by omega
    have h2 : ¬ 9 < f := by omega
    go_enter Try.func56, Try.ntmps56
    go_wp2
    exact bodyPost_ret (v := VV 4 0 0 ⟨#[]⟩ false f) (by simp [results, Try.results56, go_sem]; done) rfl ⟨rfl, by repeat (first | exact Ext.refl _ | apply Ext.drew | apply Ext.alloc | apply Ext.more_)⟩

set_option maxHeartbeats 400000 in
theorem of_any (m ex : Int) (w : World) :
    Calls Try.prog 69 #[NV m ex] w fun e w' => e = .returned (VV 1 m ex ⟨#[]⟩ false 0) ∧ Ext w w' := by
  go_enter Try.func69, Try.ntmps69
  go_wp2
  exact bodyPost_ret (v := VV 1 m ex ⟨#[]⟩ false 0) (by simp [results, Try.results69, go_sem]; done) rfl ⟨rfl, by repeat (first | exact Ext.refl _ | apply Ext.drew | apply Ext.alloc | apply Ext.more_)⟩

set_option maxHeartbeats 400000 in
theorem truth_any (t : Bool) (w : World) :
    Calls Try.prog 71 #[.bool t] w fun e w' => e = .returned (VV 3 0 0 ⟨#[]⟩ t 0) ∧ Ext w w' := by
  go_enter Try.func71, Try.ntmps71
  go_wp2
  exact bodyPost_ret (v := VV 3 0 0 ⟨#[]⟩ t 0) (by simp [results, Try.results71, go_sem]; done) rfl ⟨rfl, by repeat (first | exact Ext.refl _ | apply Ext.drew | apply Ext.alloc | apply Ext.more_)⟩

set_option maxHeartbeats 400000 in
theorem text_any (t : ByteArray) (w : World) (ht : t.size ≤ 9223372036854775807) :
    Calls Try.prog 70 #[.string t] w fun e w' => e = .returned (VV (textV t).kind 0 0 (textV t).text false (textV t).fault) ∧ Ext w w' := by
  by_cases h : 255 < t.size
  · have hv : textV t = ⟨4, 0, 0, ⟨#[]⟩, false, 2⟩ := by simp [textV, h]
    rw [hv]
    have hb : badF 2 = 2 := by decide
    go_enter Try.func70, Try.ntmps70
    go_wp2_with (go_at_call 56; refine (bad_any _ _).mono ?_; rintro e w' ⟨rfl, hb⟩; obtain ⟨os, d, rfl⟩ := hb.more)
    exact bodyPost_ret (v := VV 4 0 0 ⟨#[]⟩ false 2) (by simp [results, Try.results70, go_sem]; done) rfl ⟨rfl, by repeat (first | exact Ext.refl _ | apply Ext.drew | apply Ext.alloc | apply Ext.more_)⟩
  · have hv : textV t = ⟨2, 0, 0, t, false, 0⟩ := by simp [textV, h]
    rw [hv]
    go_enter Try.func70, Try.ntmps70
    go_wp2
    exact bodyPost_ret (v := VV 2 0 0 t false 0) (by simp [results, Try.results70, go_sem]; done) rfl ⟨rfl, by repeat (first | exact Ext.refl _ | apply Ext.drew | apply Ext.alloc | apply Ext.more_)⟩


end Go.Proofs.Ytdhdphgecoplbaa
