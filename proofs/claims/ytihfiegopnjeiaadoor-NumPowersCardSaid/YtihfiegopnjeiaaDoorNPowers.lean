/- The law NumPowers, walked. -/
import Derived.Test.YtihfiegopnjeiaaDoorPow
namespace Go.Proofs.YtihfiegopnjeiaaDoor
set_option linter.unusedSimpArgs false
set_option linter.unusedVariables false
open Go.RowKit NM
theorem pow_bd {m e n : Int} : I64 (rm (powS m e n)) ∧ I64 (re (powS m e n)) := by
  have hz : I64 0 := ⟨by decide, by decide⟩
  cases h : powS m e n with
  | none => exact ⟨hz, hz⟩
  | some r =>
    unfold powS at h
    split at h
    · cases h
    · split at h
      · cases hp : powN m e (-n).toNat with
        | none => rw [hp] at h; cases h
        | some p =>
          rw [hp] at h
          have h2 : divS 1 0 p.1 p.2 = some r := h
          unfold divS at h2
          split at h2
          · unfold divR at h2; exact Rt_i64 (rnd_right h2)
          · cases h2
      · exact Rt_i64 (pow_rt h)
set_option maxRecDepth 100000 in
set_option maxHeartbeats 4000000 in
theorem numPowers_any (m ex n : Int) (w : World) (htab : Tab w) (hm : I64 m) (hn : I64 n) :
    Calls Tryd.prog 8 #[NV m ex, .int .i64 n] w fun e w' => e = .returned (.bool true) ∧ Ext w w' := by
  have h1 := fun W hW => pow_any m ex n W hW hm hn
  have h2 := fun W => rpow_any m ex n W hm hn
  have HT := Lib.hid htab
  clear htab
  by_cases hA : 60 < n ∧ n ≤ 1000
  · have hA2 : ¬ n < -1000 := by omega
    obtain ⟨hA0, hA1⟩ := hA
    have hA3 : -1000 ≤ n := by omega
    go_enter Tryd.func8, Tryd.ntmps8
    go_wp2_with (go_at_call 14; (with_reducible refine (awake_any _ (HT.out.ext (by repeat (first | with_reducible exact Ext.refl _ | with_reducible apply Ext.drew | with_reducible apply Ext.alloc | with_reducible apply Ext.more_)))).mono ?_); rintro e w' ⟨rfl, hbx⟩; obtain ⟨osx, dx, rfl⟩ := hbx.more)
    go_ret
    exact ⟨rfl, by repeat (first | with_reducible exact Ext.refl _ | with_reducible apply Ext.drew | with_reducible apply Ext.alloc | with_reducible apply Ext.more_)⟩
  · by_cases hB : n < -60 ∧ -1000 ≤ n
    · obtain ⟨hB0, hB1⟩ := hB
      have hB2 : ¬ 60 < n := by omega
      have hB3 : n ≤ 1000 := by omega
      go_enter Tryd.func8, Tryd.ntmps8
      go_wp2_with (go_at_call 14; (with_reducible refine (awake_any _ (HT.out.ext (by repeat (first | with_reducible exact Ext.refl _ | with_reducible apply Ext.drew | with_reducible apply Ext.alloc | with_reducible apply Ext.more_)))).mono ?_); rintro e w' ⟨rfl, hbx⟩; obtain ⟨osx, dx, rfl⟩ := hbx.more)
      go_ret
      exact ⟨rfl, by repeat (first | with_reducible exact Ext.refl _ | with_reducible apply Ext.drew | with_reducible apply Ext.alloc | with_reducible apply Ext.more_)⟩
    · by_cases hC : 0 ≤ n ∧ n < 60
      · obtain ⟨k, rfl⟩ : ∃ k : Nat, n = (k : Int) := ⟨n.toNat, by omega⟩
        have hk1 : powS m ex (k : Int) = if Rt m ex then powN m ex k else none := by
          unfold powS
          by_cases hr : Rt m ex
          · rw [if_pos hr, if_neg (by rintro (h4 | h4 | h4); exact h4 hr; omega; omega), if_neg (by omega)]; rfl
          · rw [if_neg hr, if_pos (Or.inl hr)]
        have hk2 : powS m ex ((k : Int) + 1) = if Rt m ex then powN m ex (k + 1) else none := by
          unfold powS
          by_cases hr : Rt m ex
          · rw [if_pos hr, if_neg (by rintro (h4 | h4 | h4); exact h4 hr; omega; omega), if_neg (by omega)]; rfl
          · rw [if_neg hr, if_pos (Or.inl hr)]
        have h3 := fun W hW => pow_any m ex ((k : Int) + 1) W hW hm (by unfold I64; omega)
        have hb := pow_bd (m := m) (e := ex) (n := (k : Int))
        have h4 := fun W hW => mul_any (rm (powS m ex (k : Int))) (re (powS m ex (k : Int))) m ex W hW hb.1 hm
        have hkey : powS m ex (k : Int) ≠ none → powS m ex ((k : Int) + 1) = mulS (rm (powS m ex (k : Int))) (re (powS m ex (k : Int))) m ex := by
          intro hne
          rw [hk1] at hne ⊢
          rw [hk2]
          by_cases hr : Rt m ex
          · rw [if_pos hr] at hne ⊢
            rw [if_pos hr]
            cases hp : powN m ex k with
            | none => exact absurd hp hne
            | some p => rw [pow_step hp]; rfl
          · rw [if_neg hr] at hne; exact absurd rfl hne
        generalize powS m ex ((k : Int) + 1) = Z at *
        generalize mulS (rm (powS m ex (k : Int))) (re (powS m ex (k : Int))) m ex = V at *
        generalize powS m ex (k : Int) = X at *
        have k1 : ¬ 60 < (k : Int) := by omega
        have k2 : ¬ (k : Int) < -60 := by omega
        have k3 : ¬ (k : Int) < 0 := by omega
        have k4 : ¬ 60 ≤ (k : Int) := by omega
        have w1 : IntKind.i64.wrap ((k : Int) + 1) = (k : Int) + 1 := i64w (by omega) (by omega)
        clear hA hB hk1 hk2
        cases X with
        | none =>
          clear hkey
          go_enter Tryd.func8, Tryd.ntmps8
          go_wp2_with (first | (go_at_call 14; (with_reducible refine (awake_any _ (HT.out.ext (by repeat (first | with_reducible exact Ext.refl _ | with_reducible apply Ext.drew | with_reducible apply Ext.alloc | with_reducible apply Ext.more_)))).mono ?_); rintro e w' ⟨rfl, hbx⟩; obtain ⟨osx, dx, rfl⟩ := hbx.more) | (go_at_call_of 34 (Value.int IntKind.i64 (k : Int)); (with_reducible refine (h1 _ (HT.out.ext (by repeat (first | with_reducible exact Ext.refl _ | with_reducible apply Ext.drew | with_reducible apply Ext.alloc | with_reducible apply Ext.more_)))).mono ?_); rintro e w' ⟨rfl, hbx⟩; obtain ⟨osx, dx, rfl⟩ := hbx.more) | (go_at_call 35; (with_reducible refine (h2 _).mono ?_); rintro e w' ⟨rfl, hbx⟩; obtain ⟨osx, dx, rfl⟩ := hbx.more) | (go_at_call 34; (with_reducible refine (h3 _ (HT.out.ext (by repeat (first | with_reducible exact Ext.refl _ | with_reducible apply Ext.drew | with_reducible apply Ext.alloc | with_reducible apply Ext.more_)))).mono ?_); rintro e w' ⟨rfl, hbx⟩; obtain ⟨osx, dx, rfl⟩ := hbx.more) | (go_at_call 29; (with_reducible refine (h4 _ (HT.out.ext (by repeat (first | with_reducible exact Ext.refl _ | with_reducible apply Ext.drew | with_reducible apply Ext.alloc | with_reducible apply Ext.more_)))).mono ?_); rintro e w' ⟨rfl, hbx⟩; obtain ⟨osx, dx, rfl⟩ := hbx.more))
          go_ret
          exact ⟨rfl, by repeat (first | with_reducible exact Ext.refl _ | with_reducible apply Ext.drew | with_reducible apply Ext.alloc | with_reducible apply Ext.more_)⟩
        | some x =>
          obtain rfl := hkey (by simp)
          clear hkey
          go_enter Tryd.func8, Tryd.ntmps8
          go_wp2_with (first | (go_at_call 14; (with_reducible refine (awake_any _ (HT.out.ext (by repeat (first | with_reducible exact Ext.refl _ | with_reducible apply Ext.drew | with_reducible apply Ext.alloc | with_reducible apply Ext.more_)))).mono ?_); rintro e w' ⟨rfl, hbx⟩; obtain ⟨osx, dx, rfl⟩ := hbx.more) | (go_at_call_of 34 (Value.int IntKind.i64 (k : Int)); (with_reducible refine (h1 _ (HT.out.ext (by repeat (first | with_reducible exact Ext.refl _ | with_reducible apply Ext.drew | with_reducible apply Ext.alloc | with_reducible apply Ext.more_)))).mono ?_); rintro e w' ⟨rfl, hbx⟩; obtain ⟨osx, dx, rfl⟩ := hbx.more) | (go_at_call 35; (with_reducible refine (h2 _).mono ?_); rintro e w' ⟨rfl, hbx⟩; obtain ⟨osx, dx, rfl⟩ := hbx.more) | (go_at_call 34; (with_reducible refine (h3 _ (HT.out.ext (by repeat (first | with_reducible exact Ext.refl _ | with_reducible apply Ext.drew | with_reducible apply Ext.alloc | with_reducible apply Ext.more_)))).mono ?_); rintro e w' ⟨rfl, hbx⟩; obtain ⟨osx, dx, rfl⟩ := hbx.more) | (go_at_call 29; (with_reducible refine (h4 _ (HT.out.ext (by repeat (first | with_reducible exact Ext.refl _ | with_reducible apply Ext.drew | with_reducible apply Ext.alloc | with_reducible apply Ext.more_)))).mono ?_); rintro e w' ⟨rfl, hbx⟩; obtain ⟨osx, dx, rfl⟩ := hbx.more))
          go_ret
          exact ⟨rfl, by repeat (first | with_reducible exact Ext.refl _ | with_reducible apply Ext.drew | with_reducible apply Ext.alloc | with_reducible apply Ext.more_)⟩
      · generalize powS m ex n = X at *
        by_cases hD : n < 0
        · by_cases hE : n < -60
          · have hE2 : ¬ -1000 ≤ n := by omega
            have hE3 : n ≤ 1000 := by omega
            have hE4 : ¬ 60 < n := by omega
            clear hA hB hC
            go_enter Tryd.func8, Tryd.ntmps8
            go_wp2_with (first | (go_at_call 14; (with_reducible refine (awake_any _ (HT.out.ext (by repeat (first | with_reducible exact Ext.refl _ | with_reducible apply Ext.drew | with_reducible apply Ext.alloc | with_reducible apply Ext.more_)))).mono ?_); rintro e w' ⟨rfl, hbx⟩; obtain ⟨osx, dx, rfl⟩ := hbx.more) | (go_at_call 34; (with_reducible refine (h1 _ (HT.out.ext (by repeat (first | with_reducible exact Ext.refl _ | with_reducible apply Ext.drew | with_reducible apply Ext.alloc | with_reducible apply Ext.more_)))).mono ?_); rintro e w' ⟨rfl, hbx⟩; obtain ⟨osx, dx, rfl⟩ := hbx.more) | (go_at_call 35; (with_reducible refine (h2 _).mono ?_); rintro e w' ⟨rfl, hbx⟩; obtain ⟨osx, dx, rfl⟩ := hbx.more))
            go_ret
            exact ⟨rfl, by repeat (first | with_reducible exact Ext.refl _ | with_reducible apply Ext.drew | with_reducible apply Ext.alloc | with_reducible apply Ext.more_)⟩
          · have hE4 : ¬ 60 < n := by omega
            clear hA hB hC
            go_enter Tryd.func8, Tryd.ntmps8
            go_wp2_with (first | (go_at_call 14; (with_reducible refine (awake_any _ (HT.out.ext (by repeat (first | with_reducible exact Ext.refl _ | with_reducible apply Ext.drew | with_reducible apply Ext.alloc | with_reducible apply Ext.more_)))).mono ?_); rintro e w' ⟨rfl, hbx⟩; obtain ⟨osx, dx, rfl⟩ := hbx.more) | (go_at_call 34; (with_reducible refine (h1 _ (HT.out.ext (by repeat (first | with_reducible exact Ext.refl _ | with_reducible apply Ext.drew | with_reducible apply Ext.alloc | with_reducible apply Ext.more_)))).mono ?_); rintro e w' ⟨rfl, hbx⟩; obtain ⟨osx, dx, rfl⟩ := hbx.more) | (go_at_call 35; (with_reducible refine (h2 _).mono ?_); rintro e w' ⟨rfl, hbx⟩; obtain ⟨osx, dx, rfl⟩ := hbx.more))
            go_ret
            exact ⟨rfl, by repeat (first | with_reducible exact Ext.refl _ | with_reducible apply Ext.drew | with_reducible apply Ext.alloc | with_reducible apply Ext.more_)⟩
        · by_cases hE : 60 < n
          · have hE2 : ¬ n ≤ 1000 := by omega
            have hE3 : 60 ≤ n := by omega
            clear hA hB hC
            go_enter Tryd.func8, Tryd.ntmps8
            go_wp2_with (first | (go_at_call 14; (with_reducible refine (awake_any _ (HT.out.ext (by repeat (first | with_reducible exact Ext.refl _ | with_reducible apply Ext.drew | with_reducible apply Ext.alloc | with_reducible apply Ext.more_)))).mono ?_); rintro e w' ⟨rfl, hbx⟩; obtain ⟨osx, dx, rfl⟩ := hbx.more) | (go_at_call 34; (with_reducible refine (h1 _ (HT.out.ext (by repeat (first | with_reducible exact Ext.refl _ | with_reducible apply Ext.drew | with_reducible apply Ext.alloc | with_reducible apply Ext.more_)))).mono ?_); rintro e w' ⟨rfl, hbx⟩; obtain ⟨osx, dx, rfl⟩ := hbx.more) | (go_at_call 35; (with_reducible refine (h2 _).mono ?_); rintro e w' ⟨rfl, hbx⟩; obtain ⟨osx, dx, rfl⟩ := hbx.more))
            go_ret
            exact ⟨rfl, by repeat (first | with_reducible exact Ext.refl _ | with_reducible apply Ext.drew | with_reducible apply Ext.alloc | with_reducible apply Ext.more_)⟩
          · obtain rfl : n = 60 := by omega
            clear hA hB hC
            go_enter Tryd.func8, Tryd.ntmps8
            go_wp2_with (first | (go_at_call 14; (with_reducible refine (awake_any _ (HT.out.ext (by repeat (first | with_reducible exact Ext.refl _ | with_reducible apply Ext.drew | with_reducible apply Ext.alloc | with_reducible apply Ext.more_)))).mono ?_); rintro e w' ⟨rfl, hbx⟩; obtain ⟨osx, dx, rfl⟩ := hbx.more) | (go_at_call 34; (with_reducible refine (h1 _ (HT.out.ext (by repeat (first | with_reducible exact Ext.refl _ | with_reducible apply Ext.drew | with_reducible apply Ext.alloc | with_reducible apply Ext.more_)))).mono ?_); rintro e w' ⟨rfl, hbx⟩; obtain ⟨osx, dx, rfl⟩ := hbx.more) | (go_at_call 35; (with_reducible refine (h2 _).mono ?_); rintro e w' ⟨rfl, hbx⟩; obtain ⟨osx, dx, rfl⟩ := hbx.more))
            go_ret
            exact ⟨rfl, by repeat (first | with_reducible exact Ext.refl _ | with_reducible apply Ext.drew | with_reducible apply Ext.alloc | with_reducible apply Ext.more_)⟩
end Go.Proofs.YtihfiegopnjeiaaDoor
