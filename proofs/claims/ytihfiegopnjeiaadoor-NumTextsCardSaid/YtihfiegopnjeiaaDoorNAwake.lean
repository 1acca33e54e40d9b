/- counterpanelaw01.awake: the document's examples. -/
import Derived.Test.YtihfiegopnjeiaaDoorDiv
import Derived.Test.YtihfiegopnjeiaaDoorText
namespace Go.Proofs.YtihfiegopnjeiaaDoor
set_option linter.unusedSimpArgs false
set_option linter.unusedVariables false
open Go.RowKit NM

theorem rt_one : Rt 1 0 := Or.inr ⟨by decide, by decide, by decide, by decide, by
  have : nd (1 : Int).natAbs = 1 := nd_eq (k := 0) (by decide) (by decide)
  rw [this]; decide⟩
theorem rt_three : Rt 3 0 := Or.inr ⟨by decide, by decide, by decide, by decide, by
  have : nd (3 : Int).natAbs = 1 := nd_eq (k := 0) (by decide) (by decide)
  rw [this]; decide⟩
theorem rt_five : Rt 5 (-3) := Or.inr ⟨by decide, by decide, by decide, by decide, by
  have : nd (5 : Int).natAbs = 1 := nd_eq (k := 0) (by decide) (by decide)
  rw [this]; decide⟩
theorem div13 : divS 1 0 3 0 = some (333333333333333, -15) := by
  unfold divS
  rw [if_pos ⟨rt_one, rt_three, by decide⟩]
  have hn : nd (1 * T 40 / 3) = 40 := nd_eq (k := 39) (by decide +kernel) (by decide +kernel)
  have hc : cutN (1 * T 40 / 3) 25 true = 333333333333333 := by decide +kernel
  show rnd false (1 * T 40 / 3) (decide (1 * T 40 % 3 ≠ 0)) (0 - 0 - 40) = _
  have hm : decide (1 * T 40 % 3 ≠ 0) = true := by decide +kernel
  rw [hm]
  have h1 : n1 (1 * T 40 / 3) true = 333333333333333 := by unfold n1; rw [hn]; exact hc
  have h2 : n2 (1 * T 40 / 3) true (0 - 0 - 40) = 333333333333333 := by unfold n2; rw [h1, hn]; exact cutN_zero _ _
  have h3 : e2 (1 * T 40 / 3) (0 - 0 - 40) = -15 := by unfold e2; rw [hn]; decide
  have h4 : nd 333333333333333 = 15 := nd_eq (k := 14) (by decide) (by decide)
  unfold rnd
  rw [h2, h3, h4, if_neg (by decide), if_neg (by decide), trim_done _ (by decide)]
  rfl
theorem make123 : rnd false 12300 false (-2) = some (123, 0) := by
  have hn : nd 12300 = 5 := nd_eq (k := 4) (by decide) (by decide)
  have h1 : n1 12300 false = 12300 := by unfold n1; rw [hn]; exact cutN_zero _ _
  have h2 : n2 12300 false (-2) = 12300 := by unfold n2; rw [h1, hn]; exact cutN_zero _ _
  have h3 : e2 12300 (-2) = -2 := by unfold e2; rw [hn]; decide
  unfold rnd
  rw [h2, h3, hn, if_neg (by decide), if_neg (by decide), trim_ten _ (by decide) (by decide), trim_ten _ (by decide) (by decide), trim_done _ (by decide)]
  rfl
theorem text5 : textS 5 (-3) = ⟨#[48, 46, 48, 48, 53]⟩ := by
  unfold textS
  rw [if_pos rt_five]
  have h : Lib.decDigits 5 = [53] := Lib.decDigits_one (by decide)
  unfold textB textL
  rw [show (5 : Int).natAbs = 5 from rfl, h]
  rfl

set_option maxRecDepth 100000 in
set_option maxHeartbeats 1000000 in
theorem awake_any (w : World) (htab : Tab w) :
    Calls Tryd.prog 14 #[] w fun e w' => e = .returned (.bool true) ∧ Ext w w' := by
  have h1 := fun W hW => div_any 1 0 3 0 W hW (by unfold I64; omega) (by unfold I64; omega)
  have h2 := fun W hW => make_any 12300 (-2) W hW (by unfold I64; omega) (by unfold I64; omega)
  have h3 := fun W hW => text_any 5 (-3) W hW (by unfold I64; omega)
  rw [div13] at h1
  rw [show decide ((12300 : Int) < 0) = false from rfl, show (12300 : Int).natAbs = 12300 from rfl, make123] at h2
  rw [text5] at h3
  simp only [rnV, rm, re, Option.getD_some, Option.isSome_some] at h1 h2
  have HT := Lib.hid htab
  clear htab
  go_enter Tryd.func14, Tryd.ntmps14
  go_wp2_with (first | (go_at_call 31; (with_reducible refine (h1 _ (HT.out.ext (by repeat (first | exact Ext.refl _ | apply Ext.drew | apply Ext.alloc | apply Ext.more_)))).mono ?_); rintro e w' ⟨rfl, hb⟩; obtain ⟨os, d, rfl⟩ := hb.more) | (go_at_call 15; (with_reducible refine (h2 _ (HT.out.ext (by repeat (first | exact Ext.refl _ | apply Ext.drew | apply Ext.alloc | apply Ext.more_)))).mono ?_); rintro e w' ⟨rfl, hb⟩; obtain ⟨os, d, rfl⟩ := hb.more) | (go_at_call 21; (with_reducible refine (h3 _ (HT.out.ext (by repeat (first | exact Ext.refl _ | apply Ext.drew | apply Ext.alloc | apply Ext.more_)))).mono ?_); rintro e w' ⟨rfl, hb⟩; obtain ⟨os, d, rfl⟩ := hb.more))
  go_ret
  exact ⟨rfl, by repeat (first | exact Ext.refl _ | apply Ext.drew | apply Ext.alloc | apply Ext.more_)⟩
end Go.Proofs.YtihfiegopnjeiaaDoor
