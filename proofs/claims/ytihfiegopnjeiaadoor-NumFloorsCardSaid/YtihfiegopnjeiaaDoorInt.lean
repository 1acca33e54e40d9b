/- num.Int and the reference's. -/
import Derived.Test.YtihfiegopnjeiaaDoorPower
import Derived.Test.YtihfiegopnjeiaaDoorNMakes
namespace Go.Proofs.YtihfiegopnjeiaaDoor
set_option linter.unusedSimpArgs false
set_option linter.unusedVariables false
open Go.RowKit NM

/-- n, k times multiplied by ten, as long as it is an int. -/
def intGo (n : Int) : Nat → Option Int
  | 0 => some n
  | k + 1 => if 922337203685477580 < n.natAbs then none else intGo (n * 10) k
def intS (m e : Int) : Option Int := if ¬ Rt m e ∨ e < 0 then none else intGo m e.toNat
abbrev inV (r : Option Int) : Value := .tuple #[.int .i64 (r.getD 0), .bool r.isSome]
theorem mul64_ten (x : Nat) (hx : x < 18446744073709551616) (w : World) :
    Calls Tryd.prog 58 #[.int .u64 (x : Int), .int .u64 10] w fun e w' => e = .returned (.tuple #[.int .u64 ((x * 10 / 18446744073709551616 : Nat) : Int), .int .u64 ((x * 10 % 18446744073709551616 : Nat) : Int)]) ∧ w = w' :=
  (Tryd.bits_Mul64 x 10 hx (by omega) w).mono fun e w' ⟨h1, h2⟩ => ⟨h1, h2.symm⟩
set_option maxRecDepth 100000 in
set_option maxHeartbeats 2000000 in
theorem int_any (m ex : Int) (w : World) (hm : I64 m) :
    Calls Tryd.prog 23 #[NV m ex] w fun e w' => e = .returned (inV (intS m ex)) ∧ Ext w w' := by
  by_cases h : Rt m ex
  · have r1 := rtB_yes h
    obtain ⟨b1, b2, b3⟩ := Rt_bd h
    by_cases h1 : ex < 0
    · have hs : intS m ex = none := by unfold intS; rw [if_pos (Or.inr h1)]
      rw [hs]
      clear h hs
      go_enter Tryd.func23, Tryd.ntmps23
      go_wp2_with (go_at_call 17; (with_reducible refine (right_rt _ _ _ (by assumption)).mono ?_); rintro e w' ⟨rfl, hbr⟩; obtain ⟨osr, dr, rfl⟩ := hbr.more)
      go_ret2
      exact ⟨rfl, by repeat (first | exact Ext.refl _ | apply Ext.drew | apply Ext.alloc | apply Ext.more_)⟩
    · obtain ⟨n, rfl⟩ : ∃ n : Nat, ex = n := ⟨ex.toNat, by omega⟩
      have hs : intS m (n : Int) = intGo m n := by unfold intS; rw [if_neg (by rintro (h3 | h3); exact h3 h; omega)]; rfl
      generalize hR : intS m (n : Int) = R at *
      have HR := Lib.hid hs
      clear hs hR h
      go_enter Tryd.func23, Tryd.ntmps23
      go_wp2_with (go_at_call 17; (with_reducible refine (right_rt _ _ _ (by assumption)).mono ?_); rintro e w' ⟨rfl, hbr⟩; obtain ⟨osr, dr, rfl⟩ := hbr.more)
      go_loop [4, 19] (fun a i => ∃ (j : Nat) (x : Int), j ≤ n ∧ i = .int .i64 (j : Int) ∧ a = .int .i64 x ∧ Hid (I64 x) ∧ Hid (R = intGo x (n - j))) (fun _ i => n - (intOf i).toNat)
      case atStart => exact ⟨0, m, Nat.zero_le _, rfl, rfl, hm, HR⟩
      case round =>
        obtain ⟨j, x, hj, rfl, rfl, HX, HG⟩ := hrel
        by_cases hlt : j < n
        · have hx64 : x.natAbs < 18446744073709551616 := by obtain ⟨h1, h2⟩ := HX.out; omega
          have hml := mul64_ten x.natAbs hx64
          have hsz := fun W => size_nat x W HX.out
          have HG1 : Hid (R = if 922337203685477580 < x.natAbs then none else intGo (x * 10) (n - (j + 1))) := by
            show _ = _
            rw [HG.out, show n - j = n - (j + 1) + 1 by omega]; rfl
          by_cases hbig : 922337203685477580 < x.natAbs
          · have hRn : R = none := by rw [HG1.out, if_pos hbig]
            have hor : x.natAbs * 10 / 18446744073709551616 ≠ 0 ∨ 9223372036854775807 < x.natAbs * 10 % 18446744073709551616 := by omega
            generalize x.natAbs * 10 / 18446744073709551616 = hi at *
            generalize x.natAbs * 10 % 18446744073709551616 = lo at *
            generalize x.natAbs = xa at *
            subst hRn
            clear hx64 hbig
            by_cases hh : hi = 0
            · have e1 : ((hi : Int) != 0) = false := by simp [hh]
              have e1b : (hi != 0) = false := by simp [hh]
              have e2 : decide ((9223372036854775807 : Int) < (lo : Int)) = true := by simp; omega
              have e3 : decide (9223372036854775807 < lo) = true := by simp; omega
              clear hor hh
              go_wp2_with (first | (go_at_call 49; (with_reducible refine (hsz _).mono ?_); rintro e w' ⟨rfl, rfl⟩) | (go_at_call 58; (with_reducible refine (hml _).mono ?_); rintro e w' ⟨rfl, rfl⟩))
              go_ret2
              exact ⟨rfl, by repeat (first | exact Ext.refl _ | apply Ext.drew | apply Ext.alloc | apply Ext.more_)⟩
            · have e1 : ((hi : Int) != 0) = true := by simp [hh]
              have e1b : (hi != 0) = true := by simp [hh]
              clear hor hh
              go_wp2_with (first | (go_at_call 49; (with_reducible refine (hsz _).mono ?_); rintro e w' ⟨rfl, rfl⟩) | (go_at_call 58; (with_reducible refine (hml _).mono ?_); rintro e w' ⟨rfl, rfl⟩))
              go_ret2
              exact ⟨rfl, by repeat (first | exact Ext.refl _ | apply Ext.drew | apply Ext.alloc | apply Ext.more_)⟩
          · have HRn : Hid (R = intGo (x * 10) (n - (j + 1))) := by show _ = _; rw [HG1.out, if_neg hbig]
            have h10 : Hid (I64 (x * 10)) := by show I64 _; unfold I64; omega
            have hhi : x.natAbs * 10 / 18446744073709551616 = 0 := by omega
            have hlo : ¬ 9223372036854775807 < x.natAbs * 10 % 18446744073709551616 := by omega
            have w1 : IntKind.i64.wrap (x * 10) = x * 10 := i64w h10.out.1 h10.out.2
            have w2 : wrap64 (x * 10) = x * 10 := IntWalk.wrap64_in _ h10.out
            rw [hhi] at hml
            generalize x.natAbs * 10 % 18446744073709551616 = lo at *
            generalize x.natAbs = xa at *
            clear hx64 hbig hhi HG1
            have e2 : decide ((9223372036854775807 : Int) < (lo : Int)) = false := by simp; omega
            have e3 : decide (9223372036854775807 < lo) = false := by simp; omega
            clear hlo
            simp only [show ((0 : Nat) : Int) = 0 from rfl] at hml
            go_wp2_with (first | (go_at_call 49; (with_reducible refine (hsz _).mono ?_); rintro e w' ⟨rfl, rfl⟩) | (go_at_call 58; (with_reducible refine (hml _).mono ?_); rintro e w' ⟨rfl, rfl⟩))
            exact ⟨⟨j + 1, x * 10, by omega, by go_num, rfl, h10, HRn⟩, by simp [intOf]; omega⟩
        · have hRn : R = some x := by rw [HG.out, show n - j = 0 by omega]; rfl
          subst hRn
          go_wp2_with fail
          go_ret2
          exact ⟨rfl, by repeat (first | exact Ext.refl _ | apply Ext.drew | apply Ext.alloc | apply Ext.more_)⟩
  · have r1 := rtB_no h
    have hs : intS m ex = none := by unfold intS; rw [if_pos (Or.inl h)]
    rw [hs]
    clear h hs
    go_enter Tryd.func23, Tryd.ntmps23
    go_wp2_with (go_at_call 17; (with_reducible refine (right_rt _ _ _ (by assumption)).mono ?_); rintro e w' ⟨rfl, hbr⟩; obtain ⟨osr, dr, rfl⟩ := hbr.more)
    go_ret2
    exact ⟨rfl, by repeat (first | exact Ext.refl _ | apply Ext.drew | apply Ext.alloc | apply Ext.more_)⟩
set_option maxRecDepth 100000 in
set_option maxHeartbeats 2000000 in
theorem rint_any (m ex : Int) (w : World) (hm : I64 m) :
    Calls Tryd.prog 24 #[NV m ex] w fun e w' => e = .returned (inV (intS m ex)) ∧ Ext w w' := by
  by_cases h : Rt m ex
  · have r1 := rtB_yes h
    obtain ⟨b1, b2, b3⟩ := Rt_bd h
    by_cases h1 : ex < 0
    · have hs : intS m ex = none := by unfold intS; rw [if_pos (Or.inr h1)]
      rw [hs]
      clear h hs
      go_enter Tryd.func24, Tryd.ntmps24
      go_wp2_with (go_at_call 18; (with_reducible refine (rright_rt _ _ _ (by assumption)).mono ?_); rintro e w' ⟨rfl, hbr⟩; obtain ⟨osr, dr, rfl⟩ := hbr.more)
      go_ret2
      exact ⟨rfl, by repeat (first | exact Ext.refl _ | apply Ext.drew | apply Ext.alloc | apply Ext.more_)⟩
    · obtain ⟨n, rfl⟩ : ∃ n : Nat, ex = n := ⟨ex.toNat, by omega⟩
      have hs : intS m (n : Int) = intGo m n := by unfold intS; rw [if_neg (by rintro (h3 | h3); exact h3 h; omega)]; rfl
      generalize hR : intS m (n : Int) = R at *
      have HR := Lib.hid hs
      clear hs hR h
      go_enter Tryd.func24, Tryd.ntmps24
      go_wp2_with (go_at_call 18; (with_reducible refine (rright_rt _ _ _ (by assumption)).mono ?_); rintro e w' ⟨rfl, hbr⟩; obtain ⟨osr, dr, rfl⟩ := hbr.more)
      go_loop [4, 5] (fun a i => ∃ (j : Nat) (x : Int), j ≤ n ∧ i = .int .i64 (j : Int) ∧ a = .int .i64 x ∧ Hid (I64 x) ∧ Hid (R = intGo x (n - j))) (fun _ i => n - (intOf i).toNat)
      case atStart => exact ⟨0, m, Nat.zero_le _, rfl, rfl, hm, HR⟩
      case round =>
        obtain ⟨j, x, hj, rfl, rfl, HX, HG⟩ := hrel
        by_cases hlt : j < n
        · have HG1 : Hid (R = if 922337203685477580 < x.natAbs then none else intGo (x * 10) (n - (j + 1))) := by
            show _ = _
            rw [HG.out, show n - j = n - (j + 1) + 1 by omega]; rfl
          by_cases hbig : 922337203685477580 < x
          · have hRn : R = none := by rw [HG1.out, if_pos (by omega)]
            subst hRn
            go_wp2_with fail
            go_ret2
            exact ⟨rfl, by repeat (first | exact Ext.refl _ | apply Ext.drew | apply Ext.alloc | apply Ext.more_)⟩
          · by_cases hbig2 : x < -922337203685477580
            · have hRn : R = none := by rw [HG1.out, if_pos (by omega)]
              subst hRn
              go_wp2_with fail
              go_ret2
              exact ⟨rfl, by repeat (first | exact Ext.refl _ | apply Ext.drew | apply Ext.alloc | apply Ext.more_)⟩
            · have HRn : Hid (R = intGo (x * 10) (n - (j + 1))) := by show _ = _; rw [HG1.out, if_neg (by omega)]
              have h10 : Hid (I64 (x * 10)) := by show I64 _; unfold I64; omega
              have w1 : IntKind.i64.wrap (10 * x) = 10 * x := i64w (by omega) (by omega)
              go_wp2_with fail
              refine ⟨⟨j + 1, x * 10, by omega, by go_num, ?_, h10, HRn⟩, by simp [intOf]; omega⟩
              rw [Int.mul_comm]
        · have hRn : R = some x := by rw [HG.out, show n - j = 0 by omega]; rfl
          subst hRn
          go_wp2_with fail
          go_ret2
          exact ⟨rfl, by repeat (first | exact Ext.refl _ | apply Ext.drew | apply Ext.alloc | apply Ext.more_)⟩
  · have r1 := rtB_no h
    have hs : intS m ex = none := by unfold intS; rw [if_pos (Or.inl h)]
    rw [hs]
    clear h hs
    go_enter Tryd.func24, Tryd.ntmps24
    go_wp2_with (go_at_call 18; (with_reducible refine (rright_rt _ _ _ (by assumption)).mono ?_); rintro e w' ⟨rfl, hbr⟩; obtain ⟨osr, dr, rfl⟩ := hbr.more)
    go_ret2
    exact ⟨rfl, by repeat (first | exact Ext.refl _ | apply Ext.drew | apply Ext.alloc | apply Ext.more_)⟩
end Go.Proofs.YtihfiegopnjeiaaDoor
