/- num.Text. -/
import Derived.Test.YtihfiegopnjeiaaDoorMake
namespace Go.Proofs.YtihfiegopnjeiaaDoor
set_option linter.unusedSimpArgs false
set_option linter.unusedVariables false
open Go.RowKit NM

/-- The digits of a number's text. -/
def decB (n : Nat) : ByteArray := ⟨(Lib.decDigits n).toArray⟩
theorem decB_size (n : Nat) : (decB n).size = max 1 (nd n) := by
  show (Lib.decDigits n).toArray.size = _
  rw [dec_dig]; simp [dig0_length]
theorem fmtB (u : Nat) (hu64 : u < 18446744073709551616) (w : World) (htab : Tab w) :
    Calls Tryd.prog 56 #[.int .u64 u, .int .i64 10] w fun e w' => e = .returned (.string (decB u)) ∧ Ext w w' := fmt_any u hu64 w htab

set_option maxHeartbeats 1000000 in
theorem text_no (m ex : Int) (w : World) (hm : I64 m) (h : ¬ Rt m ex) :
    Calls Tryd.prog 21 #[NV m ex] w fun e w' => e = .returned (.string ⟨#[]⟩) ∧ Ext w w' := by
  have r1 := rtB_no h
  clear h
  go_enter Tryd.func21, Tryd.ntmps21
  go_wp2_with (go_at_call 17; (with_reducible refine (right_rt _ _ _ (by assumption)).mono ?_); rintro e w' ⟨rfl, hbr⟩; obtain ⟨osr, dr, rfl⟩ := hbr.more)
  go_ret
  exact ⟨rfl, by repeat (first | exact Ext.refl _ | apply Ext.drew | apply Ext.alloc | apply Ext.more_)⟩
def zerosB (n : Nat) : ByteArray := ⟨(List.replicate n 48).toArray⟩
theorem zerosB_size (n : Nat) : (zerosB n).size = n := by simp [zerosB, ByteArray.size]
theorem rep_any (n : Nat) (w : World) (hn : n ≤ 1000) :
    Calls Tryd.prog 57 #[.string ⟨#[48]⟩, .int .i64 (n : Int)] w fun e w' => e = .returned (.string (zerosB n)) ∧ Ext w w' :=
  (Tryd.strings_Repeat ⟨#[48]⟩ n w (by omega) (by show 1 * n ≤ _; omega)).mono fun e w' ⟨h1, h2⟩ => ⟨by
    rw [h1]
    have := Lib.repeatL_replicate 48 1 n
    rw [Nat.mul_one] at this
    unfold zerosB
    rw [← this]; rfl, h2⟩
/-- The text of a right number. -/
def textL (m e : Int) : List UInt8 :=
  (if m < 0 then [45] else []) ++
  if 0 ≤ e then Lib.decDigits m.natAbs ++ List.replicate e.toNat 48
  else if 0 < ((Lib.decDigits m.natAbs).length : Int) + e then (Lib.decDigits m.natAbs).take ((Lib.decDigits m.natAbs).length + e).toNat ++ 46 :: (Lib.decDigits m.natAbs).drop ((Lib.decDigits m.natAbs).length + e).toNat
  else 48 :: 46 :: (List.replicate (-((Lib.decDigits m.natAbs).length + e)).toNat 48 ++ Lib.decDigits m.natAbs)
def textB (m e : Int) : ByteArray := ⟨(textL m e).toArray⟩
theorem bytes_eq {a : ByteArray} {l : List UInt8} (h : a.data.toList = l) : a = ⟨l.toArray⟩ := by
  subst h
  cases a; simp
theorem ret_str {a b : ByteArray} (h : a = b) : Ending.returned (.string a) = .returned (.string b) := by rw [h]

set_option maxHeartbeats 2000000 in
theorem text_yes (m ex : Int) (w : World) (htab : Tab w) (h : Rt m ex) :
    Calls Tryd.prog 21 #[NV m ex] w fun e w' => e = .returned (.string (textB m ex)) ∧ Ext w w' := by
  obtain ⟨b1, b2, b3⟩ := Rt_bd h
  have hm : I64 m := by unfold I64; omega
  have r1 := rtB_yes h
  have HT := Lib.hid htab
  clear h htab
  have hsz := decB_size m.natAbs
  have hnd : nd m.natAbs ≤ 15 := (nd_le_iff _ _).2 (by have : T 15 = 1000000000000000 := by decide
                                                       omega)
  have hs1 : 1 ≤ (decB m.natAbs).size ∧ (decB m.natAbs).size ≤ 15 := by omega
  have hfm := fun W hW => fmtB m.natAbs (by omega) W hW
  have hS : (decB m.natAbs).data.toList = Lib.decDigits m.natAbs := by simp [decB]
  generalize decB m.natAbs = S at *
  have hSl : (Lib.decDigits m.natAbs).length = S.size := by rw [← hS]; exact Array.length_toList
  have HS := Lib.hid hS
  have HL := Lib.hid hSl
  clear hsz hnd hS hSl
  by_cases hneg : m < 0
  · by_cases he : 0 ≤ ex
    · obtain ⟨n, rfl⟩ := Int.eq_ofNat_of_zero_le he
      have hzz : (zerosB n).size ≤ 100 := by rw [zerosB_size]; omega
      go_enter Tryd.func21, Tryd.ntmps21
      go_wp2_with (first | (go_at_call 17; (with_reducible refine (right_rt _ _ _ (by assumption)).mono ?_); rintro e w' ⟨rfl, hbr⟩; obtain ⟨osr, dr, rfl⟩ := hbr.more) | (go_at_call 49; (with_reducible refine (size_nat _ _ (by assumption)).mono ?_); rintro e w' ⟨rfl, rfl⟩) | (go_at_call 56; refine (hfm _ (HT.out.ext (by repeat (first | exact Ext.refl _ | apply Ext.drew | apply Ext.alloc | apply Ext.more_)))).mono ?_; rintro e w' ⟨rfl, hbf⟩; obtain ⟨osf, df, rfl⟩ := hbf.more) | (go_at_call 57; refine (rep_any n _ (by omega)).mono ?_; rintro e w' ⟨rfl, hbp⟩; obtain ⟨osp, dp, rfl⟩ := Ext.more hbp))
      go_ret
      refine ⟨ret_str (bytes_eq ?_), by repeat (first | exact Ext.refl _ | apply Ext.drew | apply Ext.alloc | apply Ext.more_)⟩
      unfold textL
      rw [if_pos hneg, if_pos he]
      simp [zerosB, HS.out]
    · by_cases hw : 0 < (S.size : Int) + ex
      · obtain ⟨n, hn⟩ : ∃ n : Nat, (S.size : Int) + ex = n := ⟨((S.size : Int) + ex).toNat, by omega⟩
        have hn1 : n ≤ S.size := by omega
        have hn2 : decide (0 < (n : Int)) = true := by simp; omega
        have hn2b : decide (0 < n) = true := by simp; omega
        have k1 : ¬ 9223372036854775807 < 1 + n := by omega
        have k2 : ¬ 9223372036854775807 < 1 + n + 1 := by omega
        have k3 : ¬ 9223372036854775807 < 1 + n + 1 + (S.size - n) := by omega
        have HN := Lib.hid hn
        go_enter Tryd.func21, Tryd.ntmps21
        go_wp2_with (first | (go_at_call 17; (with_reducible refine (right_rt _ _ _ (by assumption)).mono ?_); rintro e w' ⟨rfl, hbr⟩; obtain ⟨osr, dr, rfl⟩ := hbr.more) | (go_at_call 49; (with_reducible refine (size_nat _ _ (by assumption)).mono ?_); rintro e w' ⟨rfl, rfl⟩) | (go_at_call 56; refine (hfm _ (HT.out.ext (by repeat (first | exact Ext.refl _ | apply Ext.drew | apply Ext.alloc | apply Ext.more_)))).mono ?_; rintro e w' ⟨rfl, hbf⟩; obtain ⟨osf, df, rfl⟩ := hbf.more) | (go_at_call 57; refine (rep_any n _ (by omega)).mono ?_; rintro e w' ⟨rfl, hbp⟩; obtain ⟨osp, dp, rfl⟩ := Ext.more hbp))
        refine wp_plan (S := Ext _) [(0, 0), (1, 0), (2, 0), (3, 0), (4, 0), (5, 0), (6, 0), (7, 0), (8, 0), (9, 0), (10, 0)] [] (by kernel_rfl) (by kernel_rfl) (by kernel_rfl) (fun _ _ d _ _ h => by cases d <;> exact h) (Ext.drew (Ext.refl _)) ?_
        (refine wpPl_read (v := ?_) rfl ?_ (fun w1 h1 => ?_) ?_; rotate_left 1; rfl; (obtain ⟨os1, d1, rfl⟩ := h1.more; go_simp; first | done | rfl))
        try simp only [Act.put, List.setIfInBounds_toArray, List.set_cons_zero, List.set_cons_succ]
        (refine wpPl_read (v := ?_) rfl ?_ (fun w1 h1 => ?_) ?_; rotate_left 1; rfl; (obtain ⟨os1, d1, rfl⟩ := h1.more; go_simp; first | done | rfl))
        try simp only [Act.put, List.setIfInBounds_toArray, List.set_cons_zero, List.set_cons_succ]
        (refine wpPl_read (v := ?_) rfl ?_ (fun w1 h1 => ?_) ?_; rotate_left 1; rfl; (obtain ⟨os1, d1, rfl⟩ := h1.more; go_simp; first | done | rfl))
        try simp only [Act.put, List.setIfInBounds_toArray, List.set_cons_zero, List.set_cons_succ]
        (refine wpPl_read (v := ?_) rfl ?_ (fun w1 h1 => ?_) ?_; rotate_left 1; rfl; (obtain ⟨os1, d1, rfl⟩ := h1.more; go_simp; first | done | rfl))
        try simp only [Act.put, List.setIfInBounds_toArray, List.set_cons_zero, List.set_cons_succ]
        (refine wpPl_read (v := ?_) rfl ?_ (fun w1 h1 => ?_) ?_; rotate_left 1; rfl; (obtain ⟨os1, d1, rfl⟩ := h1.more; go_simp; first | done | rfl))
        try simp only [Act.put, List.setIfInBounds_toArray, List.set_cons_zero, List.set_cons_succ]
        (refine wpPl_read (v := ?_) rfl ?_ (fun w1 h1 => ?_) ?_; rotate_left 1; rfl; (obtain ⟨os1, d1, rfl⟩ := h1.more; go_simp; first | done | rfl))
        try simp only [Act.put, List.setIfInBounds_toArray, List.set_cons_zero, List.set_cons_succ]
        (refine wpPl_read (v := ?_) rfl ?_ (fun w1 h1 => ?_) ?_; rotate_left 1; rfl; (obtain ⟨os1, d1, rfl⟩ := h1.more; go_simp; first | done | rfl))
        try simp only [Act.put, List.setIfInBounds_toArray, List.set_cons_zero, List.set_cons_succ]
        (refine wpPl_read (v := ?_) rfl ?_ (fun w1 h1 => ?_) ?_; rotate_left 1; rfl; (obtain ⟨os1, d1, rfl⟩ := h1.more; go_simp; first | done | rfl))
        try simp only [Act.put, List.setIfInBounds_toArray, List.set_cons_zero, List.set_cons_succ]
        (refine wpPl_read (v := ?_) rfl ?_ (fun w1 h1 => ?_) ?_; rotate_left 1; rfl; (obtain ⟨os1, d1, rfl⟩ := h1.more; go_simp; first | done | rfl))
        try simp only [Act.put, List.setIfInBounds_toArray, List.set_cons_zero, List.set_cons_succ]
        (refine wpPl_read (v := ?_) rfl ?_ (fun w1 h1 => ?_) ?_; rotate_left 1; rfl; (obtain ⟨os1, d1, rfl⟩ := h1.more; go_simp; first | done | rfl))
        try simp only [Act.put, List.setIfInBounds_toArray, List.set_cons_zero, List.set_cons_succ]
        (refine wpPl_read (v := ?_) rfl ?_ (fun w1 h1 => ?_) ?_; rotate_left 1; rfl; (obtain ⟨os1, d1, rfl⟩ := h1.more; go_simp; first | done | rfl))
        try simp only [Act.put, List.setIfInBounds_toArray, List.set_cons_zero, List.set_cons_succ]
        refine wpPl_nil ?_
        clear hn k1 k2 k3
        go_wp2
        go_ret
        refine ⟨ret_str (bytes_eq ?_), by repeat (first | exact Ext.refl _ | apply Ext.drew | apply Ext.alloc | apply Ext.more_)⟩
        unfold textL
        rw [if_pos hneg, if_neg (by omega), HL.out, if_pos (by have := HN.out; have := HL.out; omega), HN.out, Int.toNat_natCast]
        have hle : (Lib.decDigits m.natAbs).length = S.size := HL.out
        simp [HS.out]
        exact List.take_of_length_le (by rw [List.length_drop, hle]; exact Nat.le_refl _)
      · obtain ⟨n, hn⟩ : ∃ n : Nat, -((S.size : Int) + ex) = n := ⟨(-((S.size : Int) + ex)).toNat, by omega⟩
        have hzz : (zerosB n).size ≤ 100 := by rw [zerosB_size]; omega
        have HN := Lib.hid hn
        go_enter Tryd.func21, Tryd.ntmps21
        go_wp2_with (first | (go_at_call 17; (with_reducible refine (right_rt _ _ _ (by assumption)).mono ?_); rintro e w' ⟨rfl, hbr⟩; obtain ⟨osr, dr, rfl⟩ := hbr.more) | (go_at_call 49; (with_reducible refine (size_nat _ _ (by assumption)).mono ?_); rintro e w' ⟨rfl, rfl⟩) | (go_at_call 56; refine (hfm _ (HT.out.ext (by repeat (first | exact Ext.refl _ | apply Ext.drew | apply Ext.alloc | apply Ext.more_)))).mono ?_; rintro e w' ⟨rfl, hbf⟩; obtain ⟨osf, df, rfl⟩ := hbf.more) | (go_at_call 57; refine (rep_any n _ (by omega)).mono ?_; rintro e w' ⟨rfl, hbp⟩; obtain ⟨osp, dp, rfl⟩ := Ext.more hbp))
        go_ret
        refine ⟨ret_str (bytes_eq ?_), by repeat (first | exact Ext.refl _ | apply Ext.drew | apply Ext.alloc | apply Ext.more_)⟩
        unfold textL
        rw [if_pos hneg, if_neg (by omega), HL.out, if_neg (by have := HN.out; have := HL.out; omega), HN.out, Int.toNat_natCast]
        simp [zerosB, HS.out]
  · by_cases he : 0 ≤ ex
    · obtain ⟨n, rfl⟩ := Int.eq_ofNat_of_zero_le he
      have hzz : (zerosB n).size ≤ 100 := by rw [zerosB_size]; omega
      go_enter Tryd.func21, Tryd.ntmps21
      go_wp2_with (first | (go_at_call 17; (with_reducible refine (right_rt _ _ _ (by assumption)).mono ?_); rintro e w' ⟨rfl, hbr⟩; obtain ⟨osr, dr, rfl⟩ := hbr.more) | (go_at_call 49; (with_reducible refine (size_nat _ _ (by assumption)).mono ?_); rintro e w' ⟨rfl, rfl⟩) | (go_at_call 56; refine (hfm _ (HT.out.ext (by repeat (first | exact Ext.refl _ | apply Ext.drew | apply Ext.alloc | apply Ext.more_)))).mono ?_; rintro e w' ⟨rfl, hbf⟩; obtain ⟨osf, df, rfl⟩ := hbf.more) | (go_at_call 57; refine (rep_any n _ (by omega)).mono ?_; rintro e w' ⟨rfl, hbp⟩; obtain ⟨osp, dp, rfl⟩ := Ext.more hbp))
      go_ret
      refine ⟨ret_str (bytes_eq ?_), by repeat (first | exact Ext.refl _ | apply Ext.drew | apply Ext.alloc | apply Ext.more_)⟩
      unfold textL
      rw [if_neg (by omega), if_pos he]
      simp [zerosB, HS.out]
    · by_cases hw : 0 < (S.size : Int) + ex
      · obtain ⟨n, hn⟩ : ∃ n : Nat, (S.size : Int) + ex = n := ⟨((S.size : Int) + ex).toNat, by omega⟩
        have hn1 : n ≤ S.size := by omega
        have hn2 : decide (0 < (n : Int)) = true := by simp; omega
        have hn2b : decide (0 < n) = true := by simp; omega
        have k1 : ¬ 9223372036854775807 < n := by omega
        have k2 : ¬ 9223372036854775807 < n + 1 := by omega
        have k3 : ¬ 9223372036854775807 < n + 1 + (S.size - n) := by omega
        have HN := Lib.hid hn
        go_enter Tryd.func21, Tryd.ntmps21
        go_wp2_with (first | (go_at_call 17; (with_reducible refine (right_rt _ _ _ (by assumption)).mono ?_); rintro e w' ⟨rfl, hbr⟩; obtain ⟨osr, dr, rfl⟩ := hbr.more) | (go_at_call 49; (with_reducible refine (size_nat _ _ (by assumption)).mono ?_); rintro e w' ⟨rfl, rfl⟩) | (go_at_call 56; refine (hfm _ (HT.out.ext (by repeat (first | exact Ext.refl _ | apply Ext.drew | apply Ext.alloc | apply Ext.more_)))).mono ?_; rintro e w' ⟨rfl, hbf⟩; obtain ⟨osf, df, rfl⟩ := hbf.more) | (go_at_call 57; refine (rep_any n _ (by omega)).mono ?_; rintro e w' ⟨rfl, hbp⟩; obtain ⟨osp, dp, rfl⟩ := Ext.more hbp))
        refine wp_plan (S := Ext _) [(0, 0), (1, 0), (2, 0), (3, 0), (4, 0), (5, 0), (6, 0), (7, 0), (8, 0), (9, 0), (10, 0)] [] (by kernel_rfl) (by kernel_rfl) (by kernel_rfl) (fun _ _ d _ _ h => by cases d <;> exact h) (Ext.drew (Ext.refl _)) ?_
        (refine wpPl_read (v := ?_) rfl ?_ (fun w1 h1 => ?_) ?_; rotate_left 1; rfl; (obtain ⟨os1, d1, rfl⟩ := h1.more; go_simp; first | done | rfl))
        try simp only [Act.put, List.setIfInBounds_toArray, List.set_cons_zero, List.set_cons_succ]
        (refine wpPl_read (v := ?_) rfl ?_ (fun w1 h1 => ?_) ?_; rotate_left 1; rfl; (obtain ⟨os1, d1, rfl⟩ := h1.more; go_simp; first | done | rfl))
        try simp only [Act.put, List.setIfInBounds_toArray, List.set_cons_zero, List.set_cons_succ]
        (refine wpPl_read (v := ?_) rfl ?_ (fun w1 h1 => ?_) ?_; rotate_left 1; rfl; (obtain ⟨os1, d1, rfl⟩ := h1.more; go_simp; first | done | rfl))
        try simp only [Act.put, List.setIfInBounds_toArray, List.set_cons_zero, List.set_cons_succ]
        (refine wpPl_read (v := ?_) rfl ?_ (fun w1 h1 => ?_) ?_; rotate_left 1; rfl; (obtain ⟨os1, d1, rfl⟩ := h1.more; go_simp; first | done | rfl))
        try simp only [Act.put, List.setIfInBounds_toArray, List.set_cons_zero, List.set_cons_succ]
        (refine wpPl_read (v := ?_) rfl ?_ (fun w1 h1 => ?_) ?_; rotate_left 1; rfl; (obtain ⟨os1, d1, rfl⟩ := h1.more; go_simp; first | done | rfl))
        try simp only [Act.put, List.setIfInBounds_toArray, List.set_cons_zero, List.set_cons_succ]
        (refine wpPl_read (v := ?_) rfl ?_ (fun w1 h1 => ?_) ?_; rotate_left 1; rfl; (obtain ⟨os1, d1, rfl⟩ := h1.more; go_simp; first | done | rfl))
        try simp only [Act.put, List.setIfInBounds_toArray, List.set_cons_zero, List.set_cons_succ]
        (refine wpPl_read (v := ?_) rfl ?_ (fun w1 h1 => ?_) ?_; rotate_left 1; rfl; (obtain ⟨os1, d1, rfl⟩ := h1.more; go_simp; first | done | rfl))
        try simp only [Act.put, List.setIfInBounds_toArray, List.set_cons_zero, List.set_cons_succ]
        (refine wpPl_read (v := ?_) rfl ?_ (fun w1 h1 => ?_) ?_; rotate_left 1; rfl; (obtain ⟨os1, d1, rfl⟩ := h1.more; go_simp; first | done | rfl))
        try simp only [Act.put, List.setIfInBounds_toArray, List.set_cons_zero, List.set_cons_succ]
        (refine wpPl_read (v := ?_) rfl ?_ (fun w1 h1 => ?_) ?_; rotate_left 1; rfl; (obtain ⟨os1, d1, rfl⟩ := h1.more; go_simp; first | done | rfl))
        try simp only [Act.put, List.setIfInBounds_toArray, List.set_cons_zero, List.set_cons_succ]
        (refine wpPl_read (v := ?_) rfl ?_ (fun w1 h1 => ?_) ?_; rotate_left 1; rfl; (obtain ⟨os1, d1, rfl⟩ := h1.more; go_simp; first | done | rfl))
        try simp only [Act.put, List.setIfInBounds_toArray, List.set_cons_zero, List.set_cons_succ]
        (refine wpPl_read (v := ?_) rfl ?_ (fun w1 h1 => ?_) ?_; rotate_left 1; rfl; (obtain ⟨os1, d1, rfl⟩ := h1.more; go_simp; first | done | rfl))
        try simp only [Act.put, List.setIfInBounds_toArray, List.set_cons_zero, List.set_cons_succ]
        refine wpPl_nil ?_
        clear hn k1 k2 k3
        go_wp2
        go_ret
        refine ⟨ret_str (bytes_eq ?_), by repeat (first | exact Ext.refl _ | apply Ext.drew | apply Ext.alloc | apply Ext.more_)⟩
        unfold textL
        rw [if_neg (by omega), if_neg (by omega), HL.out, if_pos (by have := HN.out; have := HL.out; omega), HN.out, Int.toNat_natCast]
        have hle : (Lib.decDigits m.natAbs).length = S.size := HL.out
        simp [HS.out]
        exact List.take_of_length_le (by rw [List.length_drop, hle]; exact Nat.le_refl _)
      · obtain ⟨n, hn⟩ : ∃ n : Nat, -((S.size : Int) + ex) = n := ⟨(-((S.size : Int) + ex)).toNat, by omega⟩
        have hzz : (zerosB n).size ≤ 100 := by rw [zerosB_size]; omega
        have HN := Lib.hid hn
        go_enter Tryd.func21, Tryd.ntmps21
        go_wp2_with (first | (go_at_call 17; (with_reducible refine (right_rt _ _ _ (by assumption)).mono ?_); rintro e w' ⟨rfl, hbr⟩; obtain ⟨osr, dr, rfl⟩ := hbr.more) | (go_at_call 49; (with_reducible refine (size_nat _ _ (by assumption)).mono ?_); rintro e w' ⟨rfl, rfl⟩) | (go_at_call 56; refine (hfm _ (HT.out.ext (by repeat (first | exact Ext.refl _ | apply Ext.drew | apply Ext.alloc | apply Ext.more_)))).mono ?_; rintro e w' ⟨rfl, hbf⟩; obtain ⟨osf, df, rfl⟩ := hbf.more) | (go_at_call 57; refine (rep_any n _ (by omega)).mono ?_; rintro e w' ⟨rfl, hbp⟩; obtain ⟨osp, dp, rfl⟩ := Ext.more hbp))
        go_ret
        refine ⟨ret_str (bytes_eq ?_), by repeat (first | exact Ext.refl _ | apply Ext.drew | apply Ext.alloc | apply Ext.more_)⟩
        unfold textL
        rw [if_neg (by omega), if_neg (by omega), HL.out, if_neg (by have := HN.out; have := HL.out; omega), HN.out, Int.toNat_natCast]
        simp [zerosB, HS.out]
def textS (m e : Int) : ByteArray := if Rt m e then textB m e else ⟨#[]⟩
theorem text_any (m ex : Int) (w : World) (htab : Tab w) (hm : I64 m) :
    Calls Tryd.prog 21 #[NV m ex] w fun e w' => e = .returned (.string (textS m ex)) ∧ Ext w w' := by
  unfold textS
  split
  · rename_i h; exact text_yes m ex w htab h
  · rename_i h; exact text_no m ex w hm h
end Go.Proofs.YtihfiegopnjeiaaDoor
