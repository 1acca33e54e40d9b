/- What the rows' proofs lean on: the contracts of the functions that they reach, and plain facts (part P3). -/
import Derived.WalkKit
import Derived.WalkLawsBesides
import Derived.WalkSpells
import Derived.Outline
import Derived.Below
import Derived.Deep.RegionHeld3
import Derived.Deep.DeepCutAuto
import Derived.Deep.AppendLies
import Derived.Maps.AppendAt
import Derived.Lib.Hide
import Derived.OrdersHeld
import Derived.Test.YtkcoikelcmpceaaGreatDoorProg
import Derived.Shelf.Strings.Builder1
import Derived.Shelf.Strings.Builder2
import Derived.Shelf.Small.Bits
import Derived.Shelf.Small.Strs
import Derived.Shelf.Small.Wraps
import Derived.Shelf.Strings.BuilderF
import Derived.Shelf.Strconv.Itoa0
import Derived.Shelf.Strconv.Itoa1
import Derived.Shelf.LaysM
import Derived.Shelf.Strconv.Itoa2
import Derived.Shelf.Strings.Prefix
import Derived.Shelf.Bits.Mul64
import Derived.Shelf.Strings.Repeat
import Derived.Lib.ItoaMem
import Derived.Lib.OthersKept
import Derived.Deep.CutBlock
import Derived.Laws.Bits64b
import Derived.Lib.AppendZeros
import Derived.Lib.Bytealg
import Derived.Laws.RangeAny
import Derived.Maps.OwnSet
import Derived.Maps.Own
import Derived.Laws.EntriesVeiled
import Derived.Lib.ConvBytes
import Derived.Lib.SlBytesRow
import Derived.Lib.SmallJoins
import Derived.RegionTactic
import Derived.Test.YtkcoikelcmpceaaGreatDoorP2
set_option linter.unusedSimpArgs false
set_option linter.unusedVariables false
set_option maxRecDepth 100000
namespace Go.Proofs.YtkcoikelcmpceaaGreatDoor
open Go.RowKit NM
set_option maxHeartbeats 1000000 in
theorem take_any (base q st : Nat) (neg npow : Bool) (ds : List Nat) (beh pow c : Nat) (v : Value) (w : World) (h : RD base q st neg npow ds beh pow v w) (hbw : base ≤ w.heap.size) (hst : st ≤ 7) (hds : ds.length ≤ 300) (hbeh : beh ≤ 300) (hpow : pow ≤ 1000000) :
    Calls Tryz.prog 190 #[.pointer (some ⟨q, 0, none⟩), .int .i32 (c : Int)] w fun r w' => r = .returned (.bool (takeS ⟨st, neg, npow, ds, beh, pow⟩ c).isSome) ∧ Fr base w w' ∧ ∀ s', takeS ⟨st, neg, npow, ds, beh, pow⟩ c = some s' → ∃ v', RD base q s'.st s'.neg s'.npow s'.ds s'.beh s'.pow v' w' := by
  obtain ⟨c0, c1, c2, c3, c4, c5⟩ := h.at
  have f0 := h.fz 0
  have f1 := h.fz 1
  have f2 := h.fz 2
  have lq := h.lt
  by_cases hd : 48 ≤ c ∧ c ≤ 57
  · have hdg := digit_any base q st neg npow ds beh pow c v w h hbw hd hst hds hbeh hpow
    have hS : takeS ⟨st, neg, npow, ds, beh, pow⟩ c = some (digS ⟨st, neg, npow, ds, beh, pow⟩ c) := by unfold takeS isD; rw [if_pos (decide_eq_true hd)]
    have g1 : decide (48 ≤ (c : Int)) = true := decide_eq_true (by omega)
    have g2 : decide ((c : Int) ≤ 57) = true := decide_eq_true (by omega)
    have HS := Lib.hid hS
    clear h hS
    go_enter Tryz.func190, Tryz.ntmps190
    go_wp2_with (go_at_call 214; (with_reducible refine hdg.mono ?_); rintro e w' ⟨rfl, s', v', hs, hrd, hfr⟩)
    exact bodyPost_ret (v := .bool true) (by simp [results, Tryz.results190, go_sem]) rfl ⟨by rw [HS.out]; rfl, hfr, fun s'' h'' => by rw [HS.out] at h''; cases h''; rw [hs]; exact ⟨v', hrd⟩⟩
  · have HR := Lib.hid h
    have hst0 : (st = 0 ∨ st = 1 ∨ st = 2 ∨ st = 3 ∨ st = 4 ∨ st = 5 ∨ st = 6 ∨ st = 7) := by omega
    clear h
    by_cases h45 : c = 45
    · subst h45
      clear hd
      rcases hst0 with rfl | rfl | rfl | rfl | rfl | rfl | rfl | rfl
      · have HS : Hid (takeS ⟨0, neg, npow, ds, beh, pow⟩ 45 = some ⟨1, true, npow, ds, beh, pow⟩) := by show takeS _ _ = _; simp [takeS, isD]
        (go_enter Tryz.func190, Tryz.ntmps190; go_wp2_with fail; exact bodyPost_ret (v := .bool true) (by simp [results, Tryz.results190, go_sem]) rfl ⟨by rw [HS.out]; rfl, (HR.out.fr _ _).trans ((HR.out.set1 true).fr _ _), fun s' hs => by rw [HS.out] at hs; cases hs; exact ⟨v, (HR.out.set1 true).set0 1⟩⟩)
      · have HS : Hid (takeS ⟨1, neg, npow, ds, beh, pow⟩ 45 = none) := by show takeS _ _ = _; simp [takeS, isD]
        (go_enter Tryz.func190, Tryz.ntmps190; go_wp2_with fail; exact bodyPost_ret (v := .bool false) (by simp [results, Tryz.results190, go_sem]) rfl ⟨by rw [HS.out]; rfl, Fr.refl _ _, fun s' hs => by rw [HS.out] at hs; cases hs⟩)
      · have HS : Hid (takeS ⟨2, neg, npow, ds, beh, pow⟩ 45 = none) := by show takeS _ _ = _; simp [takeS, isD]
        (go_enter Tryz.func190, Tryz.ntmps190; go_wp2_with fail; exact bodyPost_ret (v := .bool false) (by simp [results, Tryz.results190, go_sem]) rfl ⟨by rw [HS.out]; rfl, Fr.refl _ _, fun s' hs => by rw [HS.out] at hs; cases hs⟩)
      · have HS : Hid (takeS ⟨3, neg, npow, ds, beh, pow⟩ 45 = none) := by show takeS _ _ = _; simp [takeS, isD]
        (go_enter Tryz.func190, Tryz.ntmps190; go_wp2_with fail; exact bodyPost_ret (v := .bool false) (by simp [results, Tryz.results190, go_sem]) rfl ⟨by rw [HS.out]; rfl, Fr.refl _ _, fun s' hs => by rw [HS.out] at hs; cases hs⟩)
      · have HS : Hid (takeS ⟨4, neg, npow, ds, beh, pow⟩ 45 = none) := by show takeS _ _ = _; simp [takeS, isD]
        (go_enter Tryz.func190, Tryz.ntmps190; go_wp2_with fail; exact bodyPost_ret (v := .bool false) (by simp [results, Tryz.results190, go_sem]) rfl ⟨by rw [HS.out]; rfl, Fr.refl _ _, fun s' hs => by rw [HS.out] at hs; cases hs⟩)
      · have HS : Hid (takeS ⟨5, neg, npow, ds, beh, pow⟩ 45 = some ⟨6, neg, true, ds, beh, pow⟩) := by show takeS _ _ = _; simp [takeS, isD]
        (go_enter Tryz.func190, Tryz.ntmps190; go_wp2_with fail; exact bodyPost_ret (v := .bool true) (by simp [results, Tryz.results190, go_sem]) rfl ⟨by rw [HS.out]; rfl, (HR.out.fr _ _).trans ((HR.out.set2 true).fr _ _), fun s' hs => by rw [HS.out] at hs; cases hs; exact ⟨v, (HR.out.set2 true).set0 6⟩⟩)
      · have HS : Hid (takeS ⟨6, neg, npow, ds, beh, pow⟩ 45 = none) := by show takeS _ _ = _; simp [takeS, isD]
        (go_enter Tryz.func190, Tryz.ntmps190; go_wp2_with fail; exact bodyPost_ret (v := .bool false) (by simp [results, Tryz.results190, go_sem]) rfl ⟨by rw [HS.out]; rfl, Fr.refl _ _, fun s' hs => by rw [HS.out] at hs; cases hs⟩)
      · have HS : Hid (takeS ⟨7, neg, npow, ds, beh, pow⟩ 45 = none) := by show takeS _ _ = _; simp [takeS, isD]
        (go_enter Tryz.func190, Tryz.ntmps190; go_wp2_with fail; exact bodyPost_ret (v := .bool false) (by simp [results, Tryz.results190, go_sem]) rfl ⟨by rw [HS.out]; rfl, Fr.refl _ _, fun s' hs => by rw [HS.out] at hs; cases hs⟩)
    by_cases h43 : c = 43
    · subst h43
      clear hd
      rcases hst0 with rfl | rfl | rfl | rfl | rfl | rfl | rfl | rfl
      · have HS : Hid (takeS ⟨0, neg, npow, ds, beh, pow⟩ 43 = none) := by show takeS _ _ = _; simp [takeS, isD]
        (go_enter Tryz.func190, Tryz.ntmps190; go_wp2_with fail; exact bodyPost_ret (v := .bool false) (by simp [results, Tryz.results190, go_sem]) rfl ⟨by rw [HS.out]; rfl, Fr.refl _ _, fun s' hs => by rw [HS.out] at hs; cases hs⟩)
      · have HS : Hid (takeS ⟨1, neg, npow, ds, beh, pow⟩ 43 = none) := by show takeS _ _ = _; simp [takeS, isD]
        (go_enter Tryz.func190, Tryz.ntmps190; go_wp2_with fail; exact bodyPost_ret (v := .bool false) (by simp [results, Tryz.results190, go_sem]) rfl ⟨by rw [HS.out]; rfl, Fr.refl _ _, fun s' hs => by rw [HS.out] at hs; cases hs⟩)
      · have HS : Hid (takeS ⟨2, neg, npow, ds, beh, pow⟩ 43 = none) := by show takeS _ _ = _; simp [takeS, isD]
        (go_enter Tryz.func190, Tryz.ntmps190; go_wp2_with fail; exact bodyPost_ret (v := .bool false) (by simp [results, Tryz.results190, go_sem]) rfl ⟨by rw [HS.out]; rfl, Fr.refl _ _, fun s' hs => by rw [HS.out] at hs; cases hs⟩)
      · have HS : Hid (takeS ⟨3, neg, npow, ds, beh, pow⟩ 43 = none) := by show takeS _ _ = _; simp [takeS, isD]
        (go_enter Tryz.func190, Tryz.ntmps190; go_wp2_with fail; exact bodyPost_ret (v := .bool false) (by simp [results, Tryz.results190, go_sem]) rfl ⟨by rw [HS.out]; rfl, Fr.refl _ _, fun s' hs => by rw [HS.out] at hs; cases hs⟩)
      · have HS : Hid (takeS ⟨4, neg, npow, ds, beh, pow⟩ 43 = none) := by show takeS _ _ = _; simp [takeS, isD]
        (go_enter Tryz.func190, Tryz.ntmps190; go_wp2_with fail; exact bodyPost_ret (v := .bool false) (by simp [results, Tryz.results190, go_sem]) rfl ⟨by rw [HS.out]; rfl, Fr.refl _ _, fun s' hs => by rw [HS.out] at hs; cases hs⟩)
      · have HS : Hid (takeS ⟨5, neg, npow, ds, beh, pow⟩ 43 = some ⟨6, neg, false, ds, beh, pow⟩) := by show takeS _ _ = _; simp [takeS, isD]
        (go_enter Tryz.func190, Tryz.ntmps190; go_wp2_with fail; exact bodyPost_ret (v := .bool true) (by simp [results, Tryz.results190, go_sem]) rfl ⟨by rw [HS.out]; rfl, (HR.out.fr _ _).trans ((HR.out.set2 false).fr _ _), fun s' hs => by rw [HS.out] at hs; cases hs; exact ⟨v, (HR.out.set2 false).set0 6⟩⟩)
      · have HS : Hid (takeS ⟨6, neg, npow, ds, beh, pow⟩ 43 = none) := by show takeS _ _ = _; simp [takeS, isD]
        (go_enter Tryz.func190, Tryz.ntmps190; go_wp2_with fail; exact bodyPost_ret (v := .bool false) (by simp [results, Tryz.results190, go_sem]) rfl ⟨by rw [HS.out]; rfl, Fr.refl _ _, fun s' hs => by rw [HS.out] at hs; cases hs⟩)
      · have HS : Hid (takeS ⟨7, neg, npow, ds, beh, pow⟩ 43 = none) := by show takeS _ _ = _; simp [takeS, isD]
        (go_enter Tryz.func190, Tryz.ntmps190; go_wp2_with fail; exact bodyPost_ret (v := .bool false) (by simp [results, Tryz.results190, go_sem]) rfl ⟨by rw [HS.out]; rfl, Fr.refl _ _, fun s' hs => by rw [HS.out] at hs; cases hs⟩)
    by_cases h46 : c = 46
    · subst h46
      clear hd
      rcases hst0 with rfl | rfl | rfl | rfl | rfl | rfl | rfl | rfl
      · have HS : Hid (takeS ⟨0, neg, npow, ds, beh, pow⟩ 46 = some ⟨3, neg, npow, ds, beh, pow⟩) := by show takeS _ _ = _; simp [takeS, isD]
        (go_enter Tryz.func190, Tryz.ntmps190; go_wp2_with fail; exact bodyPost_ret (v := .bool true) (by simp [results, Tryz.results190, go_sem]) rfl ⟨by rw [HS.out]; rfl, HR.out.fr _ _, fun s' hs => by rw [HS.out] at hs; cases hs; exact ⟨v, HR.out.set0 3⟩⟩)
      · have HS : Hid (takeS ⟨1, neg, npow, ds, beh, pow⟩ 46 = some ⟨3, neg, npow, ds, beh, pow⟩) := by show takeS _ _ = _; simp [takeS, isD]
        (go_enter Tryz.func190, Tryz.ntmps190; go_wp2_with fail; exact bodyPost_ret (v := .bool true) (by simp [results, Tryz.results190, go_sem]) rfl ⟨by rw [HS.out]; rfl, HR.out.fr _ _, fun s' hs => by rw [HS.out] at hs; cases hs; exact ⟨v, HR.out.set0 3⟩⟩)
      · have HS : Hid (takeS ⟨2, neg, npow, ds, beh, pow⟩ 46 = some ⟨3, neg, npow, ds, beh, pow⟩) := by show takeS _ _ = _; simp [takeS, isD]
        (go_enter Tryz.func190, Tryz.ntmps190; go_wp2_with fail; exact bodyPost_ret (v := .bool true) (by simp [results, Tryz.results190, go_sem]) rfl ⟨by rw [HS.out]; rfl, HR.out.fr _ _, fun s' hs => by rw [HS.out] at hs; cases hs; exact ⟨v, HR.out.set0 3⟩⟩)
      · have HS : Hid (takeS ⟨3, neg, npow, ds, beh, pow⟩ 46 = none) := by show takeS _ _ = _; simp [takeS, isD]
        (go_enter Tryz.func190, Tryz.ntmps190; go_wp2_with fail; exact bodyPost_ret (v := .bool false) (by simp [results, Tryz.results190, go_sem]) rfl ⟨by rw [HS.out]; rfl, Fr.refl _ _, fun s' hs => by rw [HS.out] at hs; cases hs⟩)
      · have HS : Hid (takeS ⟨4, neg, npow, ds, beh, pow⟩ 46 = none) := by show takeS _ _ = _; simp [takeS, isD]
        (go_enter Tryz.func190, Tryz.ntmps190; go_wp2_with fail; exact bodyPost_ret (v := .bool false) (by simp [results, Tryz.results190, go_sem]) rfl ⟨by rw [HS.out]; rfl, Fr.refl _ _, fun s' hs => by rw [HS.out] at hs; cases hs⟩)
      · have HS : Hid (takeS ⟨5, neg, npow, ds, beh, pow⟩ 46 = none) := by show takeS _ _ = _; simp [takeS, isD]
        (go_enter Tryz.func190, Tryz.ntmps190; go_wp2_with fail; exact bodyPost_ret (v := .bool false) (by simp [results, Tryz.results190, go_sem]) rfl ⟨by rw [HS.out]; rfl, Fr.refl _ _, fun s' hs => by rw [HS.out] at hs; cases hs⟩)
      · have HS : Hid (takeS ⟨6, neg, npow, ds, beh, pow⟩ 46 = none) := by show takeS _ _ = _; simp [takeS, isD]
        (go_enter Tryz.func190, Tryz.ntmps190; go_wp2_with fail; exact bodyPost_ret (v := .bool false) (by simp [results, Tryz.results190, go_sem]) rfl ⟨by rw [HS.out]; rfl, Fr.refl _ _, fun s' hs => by rw [HS.out] at hs; cases hs⟩)
      · have HS : Hid (takeS ⟨7, neg, npow, ds, beh, pow⟩ 46 = none) := by show takeS _ _ = _; simp [takeS, isD]
        (go_enter Tryz.func190, Tryz.ntmps190; go_wp2_with fail; exact bodyPost_ret (v := .bool false) (by simp [results, Tryz.results190, go_sem]) rfl ⟨by rw [HS.out]; rfl, Fr.refl _ _, fun s' hs => by rw [HS.out] at hs; cases hs⟩)
    by_cases h101 : c = 101
    · subst h101
      clear hd
      rcases hst0 with rfl | rfl | rfl | rfl | rfl | rfl | rfl | rfl
      · have HS : Hid (takeS ⟨0, neg, npow, ds, beh, pow⟩ 101 = none) := by show takeS _ _ = _; simp [takeS, isD]
        (go_enter Tryz.func190, Tryz.ntmps190; go_wp2_with fail; exact bodyPost_ret (v := .bool false) (by simp [results, Tryz.results190, go_sem]) rfl ⟨by rw [HS.out]; rfl, Fr.refl _ _, fun s' hs => by rw [HS.out] at hs; cases hs⟩)
      · have HS : Hid (takeS ⟨1, neg, npow, ds, beh, pow⟩ 101 = none) := by show takeS _ _ = _; simp [takeS, isD]
        (go_enter Tryz.func190, Tryz.ntmps190; go_wp2_with fail; exact bodyPost_ret (v := .bool false) (by simp [results, Tryz.results190, go_sem]) rfl ⟨by rw [HS.out]; rfl, Fr.refl _ _, fun s' hs => by rw [HS.out] at hs; cases hs⟩)
      · have HS : Hid (takeS ⟨2, neg, npow, ds, beh, pow⟩ 101 = some ⟨5, neg, npow, ds, beh, pow⟩) := by show takeS _ _ = _; simp [takeS, isD]
        (go_enter Tryz.func190, Tryz.ntmps190; go_wp2_with fail; exact bodyPost_ret (v := .bool true) (by simp [results, Tryz.results190, go_sem]) rfl ⟨by rw [HS.out]; rfl, HR.out.fr _ _, fun s' hs => by rw [HS.out] at hs; cases hs; exact ⟨v, HR.out.set0 5⟩⟩)
      · have HS : Hid (takeS ⟨3, neg, npow, ds, beh, pow⟩ 101 = none) := by show takeS _ _ = _; simp [takeS, isD]
        (go_enter Tryz.func190, Tryz.ntmps190; go_wp2_with fail; exact bodyPost_ret (v := .bool false) (by simp [results, Tryz.results190, go_sem]) rfl ⟨by rw [HS.out]; rfl, Fr.refl _ _, fun s' hs => by rw [HS.out] at hs; cases hs⟩)
      · have HS : Hid (takeS ⟨4, neg, npow, ds, beh, pow⟩ 101 = some ⟨5, neg, npow, ds, beh, pow⟩) := by show takeS _ _ = _; simp [takeS, isD]
        (go_enter Tryz.func190, Tryz.ntmps190; go_wp2_with fail; exact bodyPost_ret (v := .bool true) (by simp [results, Tryz.results190, go_sem]) rfl ⟨by rw [HS.out]; rfl, HR.out.fr _ _, fun s' hs => by rw [HS.out] at hs; cases hs; exact ⟨v, HR.out.set0 5⟩⟩)
      · have HS : Hid (takeS ⟨5, neg, npow, ds, beh, pow⟩ 101 = none) := by show takeS _ _ = _; simp [takeS, isD]
        (go_enter Tryz.func190, Tryz.ntmps190; go_wp2_with fail; exact bodyPost_ret (v := .bool false) (by simp [results, Tryz.results190, go_sem]) rfl ⟨by rw [HS.out]; rfl, Fr.refl _ _, fun s' hs => by rw [HS.out] at hs; cases hs⟩)
      · have HS : Hid (takeS ⟨6, neg, npow, ds, beh, pow⟩ 101 = none) := by show takeS _ _ = _; simp [takeS, isD]
        (go_enter Tryz.func190, Tryz.ntmps190; go_wp2_with fail; exact bodyPost_ret (v := .bool false) (by simp [results, Tryz.results190, go_sem]) rfl ⟨by rw [HS.out]; rfl, Fr.refl _ _, fun s' hs => by rw [HS.out] at hs; cases hs⟩)
      · have HS : Hid (takeS ⟨7, neg, npow, ds, beh, pow⟩ 101 = none) := by show takeS _ _ = _; simp [takeS, isD]
        (go_enter Tryz.func190, Tryz.ntmps190; go_wp2_with fail; exact bodyPost_ret (v := .bool false) (by simp [results, Tryz.results190, go_sem]) rfl ⟨by rw [HS.out]; rfl, Fr.refl _ _, fun s' hs => by rw [HS.out] at hs; cases hs⟩)
    by_cases h69 : c = 69
    · subst h69
      clear hd
      rcases hst0 with rfl | rfl | rfl | rfl | rfl | rfl | rfl | rfl
      · have HS : Hid (takeS ⟨0, neg, npow, ds, beh, pow⟩ 69 = none) := by show takeS _ _ = _; simp [takeS, isD]
        (go_enter Tryz.func190, Tryz.ntmps190; go_wp2_with fail; exact bodyPost_ret (v := .bool false) (by simp [results, Tryz.results190, go_sem]) rfl ⟨by rw [HS.out]; rfl, Fr.refl _ _, fun s' hs => by rw [HS.out] at hs; cases hs⟩)
      · have HS : Hid (takeS ⟨1, neg, npow, ds, beh, pow⟩ 69 = none) := by show takeS _ _ = _; simp [takeS, isD]
        (go_enter Tryz.func190, Tryz.ntmps190; go_wp2_with fail; exact bodyPost_ret (v := .bool false) (by simp [results, Tryz.results190, go_sem]) rfl ⟨by rw [HS.out]; rfl, Fr.refl _ _, fun s' hs => by rw [HS.out] at hs; cases hs⟩)
      · have HS : Hid (takeS ⟨2, neg, npow, ds, beh, pow⟩ 69 = some ⟨5, neg, npow, ds, beh, pow⟩) := by show takeS _ _ = _; simp [takeS, isD]
        (go_enter Tryz.func190, Tryz.ntmps190; go_wp2_with fail; exact bodyPost_ret (v := .bool true) (by simp [results, Tryz.results190, go_sem]) rfl ⟨by rw [HS.out]; rfl, HR.out.fr _ _, fun s' hs => by rw [HS.out] at hs; cases hs; exact ⟨v, HR.out.set0 5⟩⟩)
      · have HS : Hid (takeS ⟨3, neg, npow, ds, beh, pow⟩ 69 = none) := by show takeS _ _ = _; simp [takeS, isD]
        (go_enter Tryz.func190, Tryz.ntmps190; go_wp2_with fail; exact bodyPost_ret (v := .bool false) (by simp [results, Tryz.results190, go_sem]) rfl ⟨by rw [HS.out]; rfl, Fr.refl _ _, fun s' hs => by rw [HS.out] at hs; cases hs⟩)
      · have HS : Hid (takeS ⟨4, neg, npow, ds, beh, pow⟩ 69 = some ⟨5, neg, npow, ds, beh, pow⟩) := by show takeS _ _ = _; simp [takeS, isD]
        (go_enter Tryz.func190, Tryz.ntmps190; go_wp2_with fail; exact bodyPost_ret (v := .bool true) (by simp [results, Tryz.results190, go_sem]) rfl ⟨by rw [HS.out]; rfl, HR.out.fr _ _, fun s' hs => by rw [HS.out] at hs; cases hs; exact ⟨v, HR.out.set0 5⟩⟩)
      · have HS : Hid (takeS ⟨5, neg, npow, ds, beh, pow⟩ 69 = none) := by show takeS _ _ = _; simp [takeS, isD]
        (go_enter Tryz.func190, Tryz.ntmps190; go_wp2_with fail; exact bodyPost_ret (v := .bool false) (by simp [results, Tryz.results190, go_sem]) rfl ⟨by rw [HS.out]; rfl, Fr.refl _ _, fun s' hs => by rw [HS.out] at hs; cases hs⟩)
      · have HS : Hid (takeS ⟨6, neg, npow, ds, beh, pow⟩ 69 = none) := by show takeS _ _ = _; simp [takeS, isD]
        (go_enter Tryz.func190, Tryz.ntmps190; go_wp2_with fail; exact bodyPost_ret (v := .bool false) (by simp [results, Tryz.results190, go_sem]) rfl ⟨by rw [HS.out]; rfl, Fr.refl _ _, fun s' hs => by rw [HS.out] at hs; cases hs⟩)
      · have HS : Hid (takeS ⟨7, neg, npow, ds, beh, pow⟩ 69 = none) := by show takeS _ _ = _; simp [takeS, isD]
        (go_enter Tryz.func190, Tryz.ntmps190; go_wp2_with fail; exact bodyPost_ret (v := .bool false) (by simp [results, Tryz.results190, go_sem]) rfl ⟨by rw [HS.out]; rfl, Fr.refl _ _, fun s' hs => by rw [HS.out] at hs; cases hs⟩)
    have HS : Hid (takeS ⟨st, neg, npow, ds, beh, pow⟩ c = none) := by
      show takeS _ _ = _
      unfold takeS isD
      rw [if_neg (by rw [decide_eq_true_eq]; exact hd), if_neg (by omega), if_neg (by omega), if_neg (by omega), if_neg (by omega)]
    have e1 : ((c : Int) == 45) = false := by simp; omega
    have e2 : ((c : Int) == 46) = false := by simp; omega
    have e3 : ((c : Int) == 101) = false := by simp; omega
    have e4 : ((c : Int) == 69) = false := by simp; omega
    have e5 : ((c : Int) == 43) = false := by simp; omega
    by_cases h48 : 48 ≤ c
    · have g1 : decide (48 ≤ (c : Int)) = true := decide_eq_true (by omega)
      have g2 : decide ((c : Int) ≤ 57) = false := decide_eq_false (by omega)
      clear hd h45 h43 h46 h101 h69 h48 hst0
      (go_enter Tryz.func190, Tryz.ntmps190; go_wp2_with fail; exact bodyPost_ret (v := .bool false) (by simp [results, Tryz.results190, go_sem]) rfl ⟨by rw [HS.out]; rfl, Fr.refl _ _, fun s' hs => by rw [HS.out] at hs; cases hs⟩)
    · have g1 : decide (48 ≤ (c : Int)) = false := decide_eq_false (by omega)
      clear hd h45 h43 h46 h101 h69 h48 hst0
      (go_enter Tryz.func190, Tryz.ntmps190; go_wp2_with fail; exact bodyPost_ret (v := .bool false) (by simp [results, Tryz.results190, go_sem]) rfl ⟨by rw [HS.out]; rfl, Fr.refl _ _, fun s' hs => by rw [HS.out] at hs; cases hs⟩)
end Go.Proofs.YtkcoikelcmpceaaGreatDoor
namespace Go.Proofs.YtkcoikelcmpceaaGreatDoor
open Go.RowKit NM
/-- What holds of a reader wherever it stands. -/
structure SB (n : Nat) (s : St) : Prop where
  st : s.st ≤ 7
  len : s.ds.length ≤ n
  beh : s.beh ≤ n
  pow : s.pow ≤ 1000000
  all : AllD s.ds
theorem SB.step {n : Nat} {s s' : St} {c : Nat} (h : SB n s) (ht : takeS s c = some s') : SB (n + 1) s' := by
  obtain ⟨h1, h2, h3, h4, h5⟩ := h
  unfold takeS at ht
  split at ht
  · rename_i hc
    unfold isD at hc
    have hc := of_decide_eq_true hc
    cases ht
    have h6 : AllD (s.ds ++ [c - 48]) := h5.append (AllD.cons (by omega) AllD.nil)
    unfold digS
    split
    · exact ⟨by simp, by simp; omega, by show s.beh ≤ _; omega, h4, h6⟩
    · split
      · exact ⟨by simp, by simp; omega, by show s.beh + 1 ≤ _; omega, h4, h6⟩
      · refine ⟨by simp, by show s.ds.length ≤ _; omega, by show s.beh ≤ _; omega, ?_, h5⟩
        show (if s.pow < 100000 then s.pow * 10 + (c - 48) else s.pow) ≤ 1000000
        split <;> omega
  all_goals (repeat' (split at ht)) <;> cases ht <;> exact ⟨by simp, by show s.ds.length ≤ _; omega, by show s.beh ≤ _; omega, h4, h5⟩
theorem take_high {s : St} {c : Nat} (h : 128 ≤ c) : takeS s c = none := by
  unfold takeS isD
  rw [if_neg (by rw [decide_eq_true_eq]; omega), if_neg (by omega), if_neg (by omega), if_neg (by omega), if_neg (by omega)]
/-- A text's bytes. -/
def bl (s : ByteArray) : List Nat := s.data.toList.map (·.toNat)
theorem bl_length (s : ByteArray) : (bl s).length = s.size := by unfold bl; rw [List.length_map]; rfl
theorem bl_at (s : ByteArray) (pos : Nat) (h : pos < s.size) : (bl s)[pos]? = some (s[pos]'h).toNat := by
  unfold bl
  rw [List.getElem?_map, List.getElem?_eq_getElem (by exact h)]
  rfl
structure PI (X : World) (s : ByteArray) (q k pos : Nat) (S : St) (v : Value) (wr : World) : Prop where
  run : runS ((bl s).take pos) st0 = some S
  rd : RD X.heap.size q S.st S.neg S.npow S.ds S.beh S.pow v wr
  it : wr.heap[k]? = some (Obj.stringIter s pos)
  ext : Ext X wr
  bd : SB pos S
  kb : X.heap.size ≤ k
theorem PI.next {X wr : World} {s : ByteArray} {q k pos : Nat} {S : St} {v : Value} (h : PI X s q k pos S v wr) (p' : Nat) : RD X.heap.size q S.st S.neg S.npow S.ds S.beh S.pow v (wr.iterAt k s p') ∧ (wr.iterAt k s p').heap[k]? = some (Obj.stringIter s p') ∧ Ext X (wr.iterAt k s p') := by
  have hne : ∀ b cs t, wr.heap[b]? = some (Obj.cells cs t (0, 0)) → b ≠ k := fun b cs t hb he => by subst he; rw [h.it] at hb; cases hb
  refine ⟨⟨?_, own_keep h.rd.own fun g cur hg => Lib.iterAt_other _ _ _ _ _ (hne g cur _ hg), h.rd.qb⟩, Lib.iterAt_heap wr k s pos p' h.it, ?_⟩
  · rw [Lib.iterAt_other _ _ _ _ _ (hne q _ _ h.rd.row)]; exact h.rd.row
  · refine ⟨h.ext.os, h.ext.tape, h.ext.output, by rw [Lib.iterAt_size]; exact h.ext.size, fun b hb => ?_⟩
    rw [Lib.iterAt_other _ _ _ _ _ (by have := h.kb; omega), h.ext.block hb]
theorem PI.step {X wr w' : World} {s : ByteArray} {q k pos c : Nat} {S S' : St} {v v' : Value} (h : PI X s q k pos S v wr) (hc : (bl s)[pos]? = some c) (ht : takeS S c = some S') (hf : Fr X.heap.size (wr.iterAt k s (pos + 1)) w') (hr : RD X.heap.size q S'.st S'.neg S'.npow S'.ds S'.beh S'.pow v' w') : PI X s q k (pos + 1) S' v' w' := by
  obtain ⟨_, h2, h3⟩ := h.next (pos + 1)
  refine ⟨?_, hr, hf.it _ _ _ h2, Below.trans h3 hf.low, h.bd.step ht, h.kb⟩
  rw [take_at hc, runS_append, h.run, Option.bind_some]
  show (takeS S c).bind (runS []) = _
  rw [ht]; rfl
theorem parM_none {s : ByteArray} {pos c : Nat} {S : St} (h : runS ((bl s).take pos) st0 = some S) (hc : (bl s)[pos]? = some c) (ht : takeS S c = none) : parM (bl s) = none := by
  unfold parM
  have hl := lt_at hc
  have h1 : bl s = (bl s).take pos ++ (c :: (bl s).drop (pos + 1)) := by
    rw [← drop_at hc, List.take_append_drop]
  rw [h1, runS_append, h, Option.bind_some]
  show ((takeS S c).bind _).bind endS = none
  rw [ht]; rfl
def parS (s : ByteArray) : Option (Int × Int) := if 255 < s.size then none else parM (bl s)
set_option maxHeartbeats 1000000 in
theorem parse_any (s : ByteArray) (w : World) (hs : s.size ≤ 1000) :
    Calls Tryz.prog 164 #[.string s] w fun r w' => r = .returned (rnV (parS s)) ∧ Ext w w' := by
  unfold parS
  by_cases hlen : 255 < s.size
  · rw [if_pos hlen]
    go_enter Tryz.func164, Tryz.ntmps164
    go_wp2_with fail
    exact bodyPost_ret (v := .tuple #[NV 0 0, .bool false]) (by simp [results, Tryz.results164, go_sem]) rfl ⟨rfl, by with_reducible repeat (first | exact Ext.refl _ | apply Ext.drew | apply Ext.alloc | apply Ext.more_)⟩
  · rw [if_neg hlen]
    generalize hR : parM (bl s) = R
    have HR := Lib.hid hR
    clear hR
    have HX : Hid (∀ W : World, W = ((w.alloc (.cells #[.int .i64 0, .int .i64 0] 26)).alloc (.cells #[.int .i64 0, .bool false, .bool false, .slice none 0 0, .int .i64 0, .int .i64 0] 172)).iter s 0 → PI (w.alloc (.cells #[.int .i64 0, .int .i64 0] 26)) s (w.heap.size + 1) (w.heap.size + 1 + 1) 0 st0 (.slice none 0 0) W) := by
      intro W hW
      have hx : Ext (w.alloc (.cells #[.int .i64 0, .int .i64 0] 26)) W := by rw [hW]; exact (((Ext.refl _).alloc _).alloc _)
      have hz : (w.alloc (.cells #[.int .i64 0, .int .i64 0] 26)).heap.size = w.heap.size + 1 := by simp
      refine ⟨rfl, ⟨?_, World.ownsRow_nil _ _ _ _, by omega⟩, ?_, hx, ⟨by decide, Nat.le_refl _, Nat.le_refl _, by decide, AllD.nil⟩, by omega⟩
      · rw [hW]
        have h1 : ((w.alloc (.cells #[.int .i64 0, .int .i64 0] 26)).alloc (.cells #[.int .i64 0, .bool false, .bool false, .slice none 0 0, .int .i64 0, .int .i64 0] 172)).heap[w.heap.size + 1]? = some (.cells #[.int .i64 0, .bool false, .bool false, .slice none 0 0, .int .i64 0, .int .i64 0] 172) := by rw [← hz]; exact Array.getElem?_push_size
        exact (RowKit.Below.heap_alloc _ _ _ (lt_block h1)).trans h1
      · rw [hW]
        have := World.iter_heap ((w.alloc (.cells #[.int .i64 0, .int .i64 0] 26)).alloc (.cells #[.int .i64 0, .bool false, .bool false, .slice none 0 0, .int .i64 0, .int .i64 0] 172)) s 0
        simpa using this
    go_enter Tryz.func164, Tryz.ntmps164
    go_upto_block 0 with fail
    refine wp_world fun W hW => ?_
    have hPI := HX.out W hW
    have hX0 : PV (w.alloc (.cells #[.int .i64 0, .int .i64 0] 26)) w.heap.size 0 0 := PV.new 0 0 rfl
    have hXw : Ext w (w.alloc (.cells #[.int .i64 0, .int .i64 0] 26)) := (Ext.refl w).alloc _
    have hXs : (w.alloc (.cells #[.int .i64 0, .int .i64 0] 26)).heap.size = w.heap.size + 1 := by simp
    clear hW HX
    generalize w.alloc (.cells #[.int .i64 0, .int .i64 0] 26) = X at *
    have hq : w.heap.size + 1 < w.heap.size + 1 + 1 := by omega
    have hq0 : w.heap.size < w.heap.size + 1 := by omega
    generalize w.heap.size + 1 + 1 = k at *
    have HS0 := Lib.hid hXs
    clear hXs
    generalize w.heap.size + 1 = q at *
    have HP : Hid (PI X s q k 0 st0 (.slice none 0 0) W) := hPI
    clear hPI
    go_wp2_with fail
    go_loopw [6] (fun _ wr => ∃ pos S v, pos ≤ s.size ∧ Hid (PI X s q k pos S v wr)) (fun _ wr => s.size - wr.iterPos k)
    case atStart => exact ⟨0, st0, _, Nat.zero_le _, HP⟩
    case round =>
      obtain ⟨pos, S, v, hpos, H⟩ := hrel
      by_cases hp : pos < s.size
      · have hb := bl_at s pos hp
        have hnx : ∀ ty, (Instr.next (.pointer (some ⟨k, 0, none⟩)) true ty).run Tryz.prog wr = _ := fun ty => Lib.run_next_any_at wr k s pos ty H.out.it hp
        have hbd := H.out.bd
        have heta : (⟨S.st, S.neg, S.npow, S.ds, S.beh, S.pow⟩ : St) = S := rfl
        by_cases ha : (s[pos]'hp).toNat < 128
        · rw [decode_ascii s pos hp ha] at hnx
          generalize (s[pos]'hp).toNat = c at *
          simp only at hnx
          obtain ⟨r1, r2, r3⟩ := H.out.next (pos + 1)
          have htk := take_any X.heap.size q S.st S.neg S.npow S.ds S.beh S.pow c v (wr.iterAt k s (pos + 1)) r1 r3.size hbd.st (by have := hbd.len; omega) (by have := hbd.beh; omega) hbd.pow
          rw [heta] at htk
          have HC := Lib.hid hb
          have HE := Lib.hid r3
          clear hb r1 r2 r3 ha hbd heta
          cases hT : takeS S c with
          | some S' =>
            have HT := Lib.hid hT
            rw [hT] at htk
            clear hT
            go_wp2_with (go_at_call 190; (with_reducible refine htk.mono ?_); rintro e w' ⟨rfl, hfr, hrd⟩)
            obtain ⟨v', hr'⟩ := hrd S' rfl
            have h2 := H.out.step HC.out HT.out hfr hr'
            refine ⟨⟨pos + 1, S', v', by omega, h2⟩, ?_⟩
            simp only [World.iterPos, h2.it, H.out.it]
            omega
          | none =>
            have HT := Lib.hid hT
            rw [hT] at htk
            clear hT
            have hRn : R = none := by rw [← HR.out]; exact parM_none H.out.run HC.out HT.out
            subst hRn
            go_wp2_with (go_at_call 190; (with_reducible refine htk.mono ?_); rintro e w' ⟨rfl, hfr, hrd⟩; have hex : Ext X w' := Below.trans HE.out hfr.low; have hpv := hX0.ext hex; have a0 := hpv.c0; have a1 := hpv.c1; have a2 := hpv.fz 0; have a3 := hpv.fz 1; have a4 := hpv.lt; have z0 := (hpv.set 0 0).c0; have z1 := (hpv.set 0 0).c1)
            exact bodyPost_ret (v := .tuple #[NV 0 0, .bool false]) (by simp [results, Tryz.results164, go_sem, z0, z1]) rfl ⟨rfl, ((hXw.trans hex).set _ (Nat.le_refl _)).set _ (Nat.le_refl _)⟩
        · obtain ⟨d1, d2⟩ := decode_high s pos hp (by omega)
          have hRn : R = none := by rw [← HR.out]; exact parM_none H.out.run hb (take_high (by omega))
          subst hRn
          generalize (Utf8.decode s pos).1 = c at *
          generalize (Utf8.decode s pos).2 = b at *
          obtain ⟨r1, r2, r3⟩ := H.out.next (pos + b)
          have htk := take_any X.heap.size q S.st S.neg S.npow S.ds S.beh S.pow c v (wr.iterAt k s (pos + b)) r1 r3.size hbd.st (by have := hbd.len; omega) (by have := hbd.beh; omega) hbd.pow
          rw [heta, take_high d1] at htk
          have HE := Lib.hid r3
          clear hb r1 r2 r3 ha hbd heta
          go_wp2_with (go_at_call 190; (with_reducible refine htk.mono ?_); rintro e w' ⟨rfl, hfr, hrd⟩; have hex : Ext X w' := Below.trans HE.out hfr.low; have hpv := hX0.ext hex; have a0 := hpv.c0; have a1 := hpv.c1; have a2 := hpv.fz 0; have a3 := hpv.fz 1; have a4 := hpv.lt; have z0 := (hpv.set 0 0).c0; have z1 := (hpv.set 0 0).c1)
          exact bodyPost_ret (v := .tuple #[NV 0 0, .bool false]) (by simp [results, Tryz.results164, go_sem, z0, z1]) rfl ⟨rfl, ((hXw.trans hex).set _ (Nat.le_refl _)).set _ (Nat.le_refl _)⟩
      · have hnx : ∀ ty, (Instr.next (.pointer (some ⟨k, 0, none⟩)) true ty).run Tryz.prog wr = _ := fun ty => Lib.run_next_end_at wr k s pos ty H.out.it hp
        have hpe : pos = s.size := by omega
        have hrun := H.out.run
        have hR := HR.out
        rw [hpe, ← bl_length, List.take_length] at hrun
        unfold parM at hR
        rw [hrun, Option.bind_some] at hR
        have hrd := H.out.rd
        have hbd := H.out.bd
        have hex := H.out.ext
        have HE := Lib.hid hR
        clear hrun hR HR hpe
        obtain ⟨st, neg, npow, ds, beh, pow⟩ := S
        simp only at hrd
        obtain ⟨c0, c1, c2, c3, c4, c5⟩ := hrd.at
        have f5 := hrd.fz 5
        have lq := hrd.lt
        have hpv := hX0.ext hex
        have a0 := hpv.c0
        have a1 := hpv.c1
        have a2 := hpv.fz 0
        have a3 := hpv.fz 1
        have a4 := hpv.lt
        have z0 := (hpv.set 0 0).c0
        have z1 := (hpv.set 0 0).c1
        have HRD := Lib.hid hrd
        have HBD := Lib.hid hbd
        clear hrd hbd
        by_cases hok : st = 2 ∨ st = 4 ∨ st = 7
        · have hRn : rnd neg (val ds) false ((if npow then -(pow : Int) else pow) - beh) = R := by rw [← HE.out]; unfold endS; exact (if_pos hok).symm
          have hpw := HBD.out.pow
          have hbh := HBD.out.beh
          have hln := HBD.out.len
          simp only at hpw hbh hln
          have hqX := HRD.out.qb
          cases npow with
          | true =>
            rw [if_pos rfl] at hRn
            have hro := round_own X neg v ds (-(pow : Int) - beh) (wr.setCell ⟨q, 5, none⟩ (.int .i64 (-(pow : Int)))) ds.length (hex.set _ hqX) (HRD.out.keep 5 _) HBD.out.all (by omega) (by omega)
            rw [hRn] at hro
            have w1 : IntKind.i64.wrap (-(pow : Int)) = -pow := i64w (by omega) (by omega)
            have w2 : IntKind.i64.wrap (-(pow : Int) - beh) = -pow - beh := i64w (by omega) (by omega)
            have x0 := hX0.c0
            have x1 := hX0.c1
            have x2 := hX0.fz 0
            have x3 := hX0.fz 1
            have x4 := hX0.lt
            have z0 := (hX0.set (rm R) (re R)).c0
            have z1 := (hX0.set (rm R) (re R)).c1
            clear hpw hbh hln hRn
            rcases hok with rfl | rfl | rfl
            all_goals
              go_wp2_with (go_at_call 150; (with_reducible refine hro.mono ?_); rintro e w' ⟨rfl, os, d, rfl⟩)
              exact bodyPost_ret (v := rnV R) (by simp [results, Tryz.results164, go_sem, z0, z1, x4]) rfl ⟨rfl, ((hXw.set _ (Nat.le_refl _)).set _ (Nat.le_refl _)).more_ _ _⟩
          | false =>
            rw [if_neg (by simp)] at hRn
            have hro := round_own X neg v ds ((pow : Int) - beh) wr ds.length hex HRD.out.own HBD.out.all (by omega) (by omega)
            rw [hRn] at hro
            have w2 : IntKind.i64.wrap ((pow : Int) - beh) = pow - beh := i64w (by omega) (by omega)
            have x0 := hX0.c0
            have x1 := hX0.c1
            have x2 := hX0.fz 0
            have x3 := hX0.fz 1
            have x4 := hX0.lt
            have z0 := (hX0.set (rm R) (re R)).c0
            have z1 := (hX0.set (rm R) (re R)).c1
            clear hpw hbh hln hRn
            rcases hok with rfl | rfl | rfl
            all_goals
              go_wp2_with (go_at_call 150; (with_reducible refine hro.mono ?_); rintro e w' ⟨rfl, os, d, rfl⟩)
              exact bodyPost_ret (v := rnV R) (by simp [results, Tryz.results164, go_sem, z0, z1, x4]) rfl ⟨rfl, ((hXw.set _ (Nat.le_refl _)).set _ (Nat.le_refl _)).more_ _ _⟩
        · have hRn : R = none := by rw [← HE.out]; unfold endS; exact if_neg hok
          subst hRn
          have e1 : ((st : Int) != 2) = true := by simp; omega
          have e2 : ((st : Int) != 4) = true := by simp; omega
          have e3 : ((st : Int) != 7) = true := by simp; omega
          go_wp2_with fail
          exact bodyPost_ret (v := .tuple #[NV 0 0, .bool false]) (by simp [results, Tryz.results164, go_sem, z0, z1]) rfl ⟨rfl, ((hXw.trans hex).set _ (Nat.le_refl _)).set _ (Nat.le_refl _)⟩
end Go.Proofs.YtkcoikelcmpceaaGreatDoor
namespace Go.Proofs.YtkcoikelcmpceaaGreatDoor
open Go.RowKit
theorem eql_val (k1 m1 e1 f1 k2 m2 e2 f2 : Int) (t1 t2 : ByteArray) (b1 b2 : Bool) (w : World) : (binOp .eql 30 (VV k1 m1 e1 t1 b1 f1) (VV k2 m2 e2 t2 b2 f2)).run Tryz.prog w = .ok (.bool (eqV ⟨k1, m1, e1, t1, b1, f1⟩ ⟨k2, m2, e2, t2, b2, f2⟩)) w := by
  have ht : (t1.toList = t2.toList) ↔ t1 = t2 := ⟨fun h => by
    cases t1; cases t2
    rename_i a b
    have : a.toList = b.toList := by simpa [ByteArray.toList_eq] using h
    simpa using this, fun h => by rw [h]⟩
  simp only [VV, eqV]
  simp [go_sem, ht]
  by_cases h1 : k1 = k2 <;> simp [h1]
  by_cases h2 : m1 = m2 <;> simp [h2]
  by_cases h3 : e1 = e2 <;> simp [h3]
  by_cases h4 : t1 = t2 <;> simp [h4]
  by_cases h5 : b1 = b2 <;> simp [h5]
  by_cases h6 : f1 = f2 <;> simp [h6]
set_option maxHeartbeats 400000 in
theorem bad_any (f : Int) (w : World) :
    Calls Tryz.prog 65 #[.int .i64 f] w fun e w' => e = .returned (VV 4 0 0 ⟨#[]⟩ false (badF f)) ∧ Ext w w' := by
  by_cases h : f < 1 ∨ 9 < f
  · have hb : badF f = 9 := by simp [badF, h]
    rw [hb]
    rcases h with h | h
    · go_enter Tryz.func65, Tryz.ntmps65
      go_wp2
      exact bodyPost_ret (v := VV 4 0 0 ⟨#[]⟩ false 9) (by simp [results, Tryz.results65, go_sem]) rfl ⟨rfl, by repeat (first | exact Ext.refl _ | apply Ext.drew | apply Ext.alloc | apply Ext.more_)⟩
    · have h1 : ¬ f < 1 := by omega
      go_enter Tryz.func65, Tryz.ntmps65
      go_wp2
      exact bodyPost_ret (v := VV 4 0 0 ⟨#[]⟩ false 9) (by simp [results, Tryz.results65, go_sem]) rfl ⟨rfl, by repeat (first | exact Ext.refl _ | apply Ext.drew | apply Ext.alloc | apply Ext.more_)⟩
  · have hb : badF f = f := by simp [badF, h]
    rw [hb]
    have h1 : ¬ f < 1 := by omega
    have h2 : ¬ 9 < f := by omega
    go_enter Tryz.func65, Tryz.ntmps65
    go_wp2
    exact bodyPost_ret (v := VV 4 0 0 ⟨#[]⟩ false f) (by simp [results, Tryz.results65, go_sem]) rfl ⟨rfl, by repeat (first | exact Ext.refl _ | apply Ext.drew | apply Ext.alloc | apply Ext.more_)⟩
set_option maxHeartbeats 400000 in
theorem of_any (m ex : Int) (w : World) :
    Calls Tryz.prog 99 #[NV m ex] w fun e w' => e = .returned (VV 1 m ex ⟨#[]⟩ false 0) ∧ Ext w w' := by
  go_enter Tryz.func99, Tryz.ntmps99
  go_wp2
  exact bodyPost_ret (v := VV 1 m ex ⟨#[]⟩ false 0) (by simp [results, Tryz.results99, go_sem]) rfl ⟨rfl, by repeat (first | exact Ext.refl _ | apply Ext.drew | apply Ext.alloc | apply Ext.more_)⟩
set_option maxHeartbeats 400000 in
theorem truth_any (t : Bool) (w : World) :
    Calls Tryz.prog 130 #[.bool t] w fun e w' => e = .returned (VV 3 0 0 ⟨#[]⟩ t 0) ∧ Ext w w' := by
  go_enter Tryz.func130, Tryz.ntmps130
  go_wp2
  exact bodyPost_ret (v := VV 3 0 0 ⟨#[]⟩ t 0) (by simp [results, Tryz.results130, go_sem]) rfl ⟨rfl, by repeat (first | exact Ext.refl _ | apply Ext.drew | apply Ext.alloc | apply Ext.more_)⟩
set_option maxHeartbeats 400000 in
theorem text_any (t : ByteArray) (w : World) (ht : t.size ≤ 9223372036854775807) :
    Calls Tryz.prog 129 #[.string t] w fun e w' => e = .returned (VV (textV t).kind 0 0 (textV t).text false (textV t).fault) ∧ Ext w w' := by
  by_cases h : 255 < t.size
  · have hv : textV t = ⟨4, 0, 0, ⟨#[]⟩, false, 2⟩ := by simp [textV, h]
    rw [hv]
    have hb : badF 2 = 2 := by decide
    go_enter Tryz.func129, Tryz.ntmps129
    go_wp2_with (go_at_call 65; refine (bad_any _ _).mono ?_; rintro e w' ⟨rfl, hb⟩; obtain ⟨os, d, rfl⟩ := hb.more)
    exact bodyPost_ret (v := VV 4 0 0 ⟨#[]⟩ false 2) (by simp [results, Tryz.results129, go_sem]) rfl ⟨rfl, by repeat (first | exact Ext.refl _ | apply Ext.drew | apply Ext.alloc | apply Ext.more_)⟩
  · have hv : textV t = ⟨2, 0, 0, t, false, 0⟩ := by simp [textV, h]
    rw [hv]
    go_enter Tryz.func129, Tryz.ntmps129
    go_wp2
    exact bodyPost_ret (v := VV 2 0 0 t false 0) (by simp [results, Tryz.results129, go_sem]) rfl ⟨rfl, by repeat (first | exact Ext.refl _ | apply Ext.drew | apply Ext.alloc | apply Ext.more_)⟩
end Go.Proofs.YtkcoikelcmpceaaGreatDoor
namespace Go.Proofs.YtkcoikelcmpceaaGreatDoor
open Go.RowKit
set_option maxHeartbeats 400000 in
theorem valRight_any (k m ex f : Int) (t : ByteArray) (b : Bool) (w : World) (hm : I64 m) (ht : t.size ≤ 9223372036854775807) :
    Calls Tryz.prog 67 #[VV k m ex t b f] w fun e w' => e = .returned (.bool (valRight ⟨k, m, ex, t, b, f⟩)) ∧ Ext w w' := by
  have heq := eql_val
  by_cases h0 : k = 0
  · subst h0
    go_enter Tryz.func67, Tryz.ntmps67
    go_wp2
    go_ret
    exact ⟨ret_bool (by simp [valRight, Val.zero]), by repeat (first | exact Ext.refl _ | apply Ext.drew | apply Ext.alloc | apply Ext.more_)⟩
  by_cases h1 : k = 1
  · subst h1
    by_cases hr : numRightB m ex = true
    · have e : valRight ⟨1, m, ex, t, b, f⟩ = eqV ⟨1, m, ex, t, b, f⟩ ⟨1, m, ex, ⟨#[]⟩, false, 0⟩ := by simp [valRight, hr]
      rw [e]; clear e h0
      go_enter Tryz.func67, Tryz.ntmps67
      go_wp2
      refine wp_plan (S := Ext _) [(0, 0), (1, 0), (2, 1), (3, 0), (4, 0), (5, 0), (6, 0), (7, 1), (8, 0), (9, 0), (10, 0)] [] (by kernel_rfl) (by kernel_rfl) (by kernel_rfl) (fun _ _ d _ _ h => by cases d <;> exact h) (Ext.drew (Ext.refl _)) ?_
      iterate 2 ((refine wpPl_read (v := ?_) rfl ?_ (fun _ h => ?_) ?_; rotate_left 1; rfl; (obtain ⟨_, _, rfl⟩ := h.more; go_simp; try rfl)); try simp only [Act.put, zqA, zqB, zqC])
      (refine wpPl_eff rfl ?_ (fun K hK => ?_); rfl; go_simp; refine (numRight_any _ _ _ hm).mono ?_; rintro e w' ⟨rfl, hb⟩; obtain ⟨os, d, rfl⟩ := hb.more; refine hK _ _ ?_ ?_; (repeat (first | (with_reducible (first | exact Ext.refl _ | exact ext_d _ _ _ _ | exact ext_app _ _ _ _ _ | exact ext_app2 _ _ _ _ _ _ | exact ext_app3 _ _ _ _ _ _ _ | exact ext_app4 _ _ _ _ _ _ _ _ | exact ext_app5 _ _ _ _ _ _ _ _ _)) | ((with_reducible refine ext_suffix ⟨_, ?_⟩); (try simp only [Array.append_assoc]); rfl) | (with_reducible (first | apply Ext.drew | apply Ext.alloc | apply Ext.more_)) | apply Ext.drew | apply Ext.alloc | apply Ext.more_)))
      try simp only [Act.put, zqA, zqB, zqC]
      (refine wpPl_read (v := ?_) rfl ?_ (fun _ h => ?_) ?_; rotate_left 1; rfl; (obtain ⟨_, _, rfl⟩ := h.more; go_simp; try rfl))
      try simp only [Act.put, zqA, zqB, zqC]
      iterate 3 ((first | (refine wpPl_skip rfl rfl ?_) | (refine wpPl_read (v := ?_) rfl ?_ (fun w1 h1 => ?_) ?_; rotate_left 1; rfl; (obtain ⟨os1, d1, rfl⟩ := h1.more; go_simp; first | done | rfl)) | (refine wpPl_gread (v := ?_) (c := ?_) rfl rfl rfl rfl ?_ (fun hc w1 h1 => ?_) ?_; rotate_left 2; (first | exact gc_t _ | exact gc_f _ | exact gc_gt _ _ | exact gc_gf _ _); (obtain ⟨os1, d1, rfl⟩ := h1.more; (try simp only [gv_of hc]); (try (have hc1 := and_l hc; (try simp only [gv_of hc1]); (try (have hc2 := and_l hc1; (try simp only [gv_of hc2]))))); go_simp; first | done | rfl))); try simp only [Act.put, zqA, zqB, zqC])
      first | (refine wpPl_effskip rfl ?_ ?_ ?_; (first | with_reducible rfl | rfl | (go_simp; done)); (repeat (first | (with_reducible (first | exact Ext.refl _ | exact ext_d _ _ _ _ | exact ext_app _ _ _ _ _ | exact ext_app2 _ _ _ _ _ _ | exact ext_app3 _ _ _ _ _ _ _ | exact ext_app4 _ _ _ _ _ _ _ _ | exact ext_app5 _ _ _ _ _ _ _ _ _)) | ((with_reducible refine ext_suffix ⟨_, ?_⟩); (try simp only [Array.append_assoc]); rfl) | (with_reducible (first | apply Ext.drew | apply Ext.alloc | apply Ext.more_)) | apply Ext.drew | apply Ext.alloc | apply Ext.more_))) | (refine wpPl_eff rfl ?_ (fun K hK => ?_); (first | with_reducible rfl | rfl | (go_simp; done)); go_simp; refine (of_any _ _ _).mono ?_; rintro e w' ⟨rfl, hb⟩; obtain ⟨os, d, rfl⟩ := hb.more; refine hK _ _ ?_ ?_; (repeat (first | (with_reducible (first | exact Ext.refl _ | exact ext_d _ _ _ _ | exact ext_app _ _ _ _ _ | exact ext_app2 _ _ _ _ _ _ | exact ext_app3 _ _ _ _ _ _ _ | exact ext_app4 _ _ _ _ _ _ _ _ | exact ext_app5 _ _ _ _ _ _ _ _ _)) | ((with_reducible refine ext_suffix ⟨_, ?_⟩); (try simp only [Array.append_assoc]); rfl) | (with_reducible (first | apply Ext.drew | apply Ext.alloc | apply Ext.more_)) | apply Ext.drew | apply Ext.alloc | apply Ext.more_)))
      try simp only [Act.put, zqA, zqB, zqC]
      first | (refine wpPl_skip rfl rfl ?_) | (refine wpPl_read (v := ?_) rfl ?_ (fun w1 h1 => ?_) ?_; rotate_left 1; rfl; (obtain ⟨os1, d1, rfl⟩ := h1.more; go_simp; first | done | rfl)) | (refine wpPl_gread (v := ?_) (c := ?_) rfl rfl rfl rfl ?_ (fun hc w1 h1 => ?_) ?_; rotate_left 2; (first | exact gc_t _ | exact gc_f _ | exact gc_gt _ _ | exact gc_gf _ _); (obtain ⟨os1, d1, rfl⟩ := h1.more; (try simp only [gv_of hc]); (try (have hc1 := and_l hc; (try simp only [gv_of hc1]); (try (have hc2 := and_l hc1; (try simp only [gv_of hc2]))))); go_simp; first | done | rfl))
      try simp only [Act.put, zqA, zqB, zqC]
      first | (refine wpPl_pick_and rfl rfl rfl rfl rfl rfl ?_) | (refine wpPl_pick_or rfl rfl rfl rfl rfl rfl ?_) | (refine wpPl_read (v := ?_) rfl ?_ (fun w1 h1 => ?_) ?_; rotate_left 1; rfl; (obtain ⟨os1, d1, rfl⟩ := h1.more; go_simp; first | done | rfl))
      try simp only [Act.put, zqA, zqB, zqC]
      (refine wpPl_read (v := ?_) rfl ?_ (fun _ h => ?_) ?_; rotate_left 1; rfl; (obtain ⟨_, _, rfl⟩ := h.more; go_simp; try rfl))
      try simp only [Act.put, zqA, zqB, zqC]
      refine wpPl_nil ?_
      go_wp2
      go_ret
      exact ⟨rfl, by repeat (first | exact Ext.refl _ | apply Ext.drew | apply Ext.alloc | apply Ext.more_)⟩
    · have hr' : numRightB m ex = false := by simpa using hr
      have e : valRight ⟨1, m, ex, t, b, f⟩ = false := by simp [valRight, hr]
      rw [e]; clear e h0 hr
      go_enter Tryz.func67, Tryz.ntmps67
      go_wp2
      refine wp_plan (S := Ext _) [(0, 0), (1, 0), (2, 1), (3, 0), (4, 0), (5, 0), (6, 0), (7, 1), (8, 0), (9, 0), (10, 0)] [] (by kernel_rfl) (by kernel_rfl) (by kernel_rfl) (fun _ _ d _ _ h => by cases d <;> exact h) (Ext.drew (Ext.refl _)) ?_
      iterate 2 ((refine wpPl_read (v := ?_) rfl ?_ (fun _ h => ?_) ?_; rotate_left 1; rfl; (obtain ⟨_, _, rfl⟩ := h.more; go_simp; try rfl)); try simp only [Act.put, zqA, zqB, zqC])
      (refine wpPl_eff rfl ?_ (fun K hK => ?_); rfl; go_simp; refine (numRight_any _ _ _ hm).mono ?_; rintro e w' ⟨rfl, hb⟩; obtain ⟨os, d, rfl⟩ := hb.more; refine hK _ _ ?_ ?_; (repeat (first | (with_reducible (first | exact Ext.refl _ | exact ext_d _ _ _ _ | exact ext_app _ _ _ _ _ | exact ext_app2 _ _ _ _ _ _ | exact ext_app3 _ _ _ _ _ _ _ | exact ext_app4 _ _ _ _ _ _ _ _ | exact ext_app5 _ _ _ _ _ _ _ _ _)) | ((with_reducible refine ext_suffix ⟨_, ?_⟩); (try simp only [Array.append_assoc]); rfl) | (with_reducible (first | apply Ext.drew | apply Ext.alloc | apply Ext.more_)) | apply Ext.drew | apply Ext.alloc | apply Ext.more_)))
      try simp only [Act.put, zqA, zqB, zqC]
      (refine wpPl_read (v := ?_) rfl ?_ (fun _ h => ?_) ?_; rotate_left 1; rfl; (obtain ⟨_, _, rfl⟩ := h.more; go_simp; try rfl))
      try simp only [Act.put, zqA, zqB, zqC]
      iterate 3 ((first | (refine wpPl_skip rfl rfl ?_) | (refine wpPl_read (v := ?_) rfl ?_ (fun w1 h1 => ?_) ?_; rotate_left 1; rfl; (obtain ⟨os1, d1, rfl⟩ := h1.more; go_simp; first | done | rfl)) | (refine wpPl_gread (v := ?_) (c := ?_) rfl rfl rfl rfl ?_ (fun hc w1 h1 => ?_) ?_; rotate_left 2; (first | exact gc_t _ | exact gc_f _ | exact gc_gt _ _ | exact gc_gf _ _); (obtain ⟨os1, d1, rfl⟩ := h1.more; (try simp only [gv_of hc]); (try (have hc1 := and_l hc; (try simp only [gv_of hc1]); (try (have hc2 := and_l hc1; (try simp only [gv_of hc2]))))); go_simp; first | done | rfl))); try simp only [Act.put, zqA, zqB, zqC])
      first | (refine wpPl_effskip rfl ?_ ?_ ?_; (first | with_reducible rfl | rfl | (go_simp; done)); (repeat (first | (with_reducible (first | exact Ext.refl _ | exact ext_d _ _ _ _ | exact ext_app _ _ _ _ _ | exact ext_app2 _ _ _ _ _ _ | exact ext_app3 _ _ _ _ _ _ _ | exact ext_app4 _ _ _ _ _ _ _ _ | exact ext_app5 _ _ _ _ _ _ _ _ _)) | ((with_reducible refine ext_suffix ⟨_, ?_⟩); (try simp only [Array.append_assoc]); rfl) | (with_reducible (first | apply Ext.drew | apply Ext.alloc | apply Ext.more_)) | apply Ext.drew | apply Ext.alloc | apply Ext.more_))) | (refine wpPl_eff rfl ?_ (fun K hK => ?_); (first | with_reducible rfl | rfl | (go_simp; done)); go_simp; refine (of_any _ _ _).mono ?_; rintro e w' ⟨rfl, hb⟩; obtain ⟨os, d, rfl⟩ := hb.more; refine hK _ _ ?_ ?_; (repeat (first | (with_reducible (first | exact Ext.refl _ | exact ext_d _ _ _ _ | exact ext_app _ _ _ _ _ | exact ext_app2 _ _ _ _ _ _ | exact ext_app3 _ _ _ _ _ _ _ | exact ext_app4 _ _ _ _ _ _ _ _ | exact ext_app5 _ _ _ _ _ _ _ _ _)) | ((with_reducible refine ext_suffix ⟨_, ?_⟩); (try simp only [Array.append_assoc]); rfl) | (with_reducible (first | apply Ext.drew | apply Ext.alloc | apply Ext.more_)) | apply Ext.drew | apply Ext.alloc | apply Ext.more_)))
      try simp only [Act.put, zqA, zqB, zqC]
      first | (refine wpPl_skip rfl rfl ?_) | (refine wpPl_read (v := ?_) rfl ?_ (fun w1 h1 => ?_) ?_; rotate_left 1; rfl; (obtain ⟨os1, d1, rfl⟩ := h1.more; go_simp; first | done | rfl)) | (refine wpPl_gread (v := ?_) (c := ?_) rfl rfl rfl rfl ?_ (fun hc w1 h1 => ?_) ?_; rotate_left 2; (first | exact gc_t _ | exact gc_f _ | exact gc_gt _ _ | exact gc_gf _ _); (obtain ⟨os1, d1, rfl⟩ := h1.more; (try simp only [gv_of hc]); (try (have hc1 := and_l hc; (try simp only [gv_of hc1]); (try (have hc2 := and_l hc1; (try simp only [gv_of hc2]))))); go_simp; first | done | rfl))
      try simp only [Act.put, zqA, zqB, zqC]
      first | (refine wpPl_pick_and rfl rfl rfl rfl rfl rfl ?_) | (refine wpPl_pick_or rfl rfl rfl rfl rfl rfl ?_) | (refine wpPl_read (v := ?_) rfl ?_ (fun w1 h1 => ?_) ?_; rotate_left 1; rfl; (obtain ⟨os1, d1, rfl⟩ := h1.more; go_simp; first | done | rfl))
      try simp only [Act.put, zqA, zqB, zqC]
      (refine wpPl_read (v := ?_) rfl ?_ (fun _ h => ?_) ?_; rotate_left 1; rfl; (obtain ⟨_, _, rfl⟩ := h.more; go_simp; try rfl))
      try simp only [Act.put, zqA, zqB, zqC]
      refine wpPl_nil ?_
      go_wp2
      go_ret
      exact ⟨rfl, by repeat (first | exact Ext.refl _ | apply Ext.drew | apply Ext.alloc | apply Ext.more_)⟩
  by_cases h2 : k = 2
  · subst h2
    clear h0 h1
    go_enter Tryz.func67, Tryz.ntmps67
    go_wp2
    refine wp_plan (S := Ext _) [(0, 0), (1, 0), (2, 0), (3, 1), (4, 0), (5, 0)] [] (by kernel_rfl) (by kernel_rfl) (by kernel_rfl) (fun _ _ d _ _ h => by cases d <;> exact h) (Ext.drew (Ext.refl _)) ?_
    iterate 3 ((refine wpPl_read (v := ?_) rfl ?_ (fun _ h => ?_) ?_; rotate_left 1; rfl; (obtain ⟨_, _, rfl⟩ := h.more; go_simp; try rfl)); try simp only [Act.put, zqA, zqB, zqC])
    (refine wpPl_eff rfl ?_ (fun K hK => ?_); rfl; go_simp; refine (text_any _ _ ht).mono ?_; rintro e w' ⟨rfl, hb⟩; obtain ⟨os, d, rfl⟩ := hb.more; refine hK _ _ ?_ ?_; (repeat (first | (with_reducible (first | exact Ext.refl _ | exact ext_d _ _ _ _ | exact ext_app _ _ _ _ _ | exact ext_app2 _ _ _ _ _ _ | exact ext_app3 _ _ _ _ _ _ _ | exact ext_app4 _ _ _ _ _ _ _ _ | exact ext_app5 _ _ _ _ _ _ _ _ _)) | ((with_reducible refine ext_suffix ⟨_, ?_⟩); (try simp only [Array.append_assoc]); rfl) | (with_reducible (first | apply Ext.drew | apply Ext.alloc | apply Ext.more_)) | apply Ext.drew | apply Ext.alloc | apply Ext.more_)))
    try simp only [Act.put, zqA, zqB, zqC]
    iterate 2 ((refine wpPl_read (v := ?_) rfl ?_ (fun _ h => ?_) ?_; rotate_left 1; rfl; (obtain ⟨_, _, rfl⟩ := h.more; go_simp; try rfl)); try simp only [Act.put, zqA, zqB, zqC])
    refine wpPl_nil ?_
    go_wp2
    go_ret
    exact ⟨ret_bool (by simp [valRight]; unfold textV; split <;> rfl), by repeat (first | exact Ext.refl _ | apply Ext.drew | apply Ext.alloc | apply Ext.more_)⟩
  by_cases h3 : k = 3
  · subst h3
    clear h0 h1 h2
    go_enter Tryz.func67, Tryz.ntmps67
    go_wp2
    refine wp_plan (S := Ext _) [(0, 0), (1, 0), (2, 0), (3, 1), (4, 0), (5, 0)] [] (by kernel_rfl) (by kernel_rfl) (by kernel_rfl) (fun _ _ d _ _ h => by cases d <;> exact h) (Ext.drew (Ext.refl _)) ?_
    iterate 3 ((refine wpPl_read (v := ?_) rfl ?_ (fun _ h => ?_) ?_; rotate_left 1; rfl; (obtain ⟨_, _, rfl⟩ := h.more; go_simp; try rfl)); try simp only [Act.put, zqA, zqB, zqC])
    (refine wpPl_eff rfl ?_ (fun K hK => ?_); rfl; go_simp; refine (truth_any _ _).mono ?_; rintro e w' ⟨rfl, hb⟩; obtain ⟨os, d, rfl⟩ := hb.more; refine hK _ _ ?_ ?_; (repeat (first | (with_reducible (first | exact Ext.refl _ | exact ext_d _ _ _ _ | exact ext_app _ _ _ _ _ | exact ext_app2 _ _ _ _ _ _ | exact ext_app3 _ _ _ _ _ _ _ | exact ext_app4 _ _ _ _ _ _ _ _ | exact ext_app5 _ _ _ _ _ _ _ _ _)) | ((with_reducible refine ext_suffix ⟨_, ?_⟩); (try simp only [Array.append_assoc]); rfl) | (with_reducible (first | apply Ext.drew | apply Ext.alloc | apply Ext.more_)) | apply Ext.drew | apply Ext.alloc | apply Ext.more_)))
    try simp only [Act.put, zqA, zqB, zqC]
    iterate 2 ((refine wpPl_read (v := ?_) rfl ?_ (fun _ h => ?_) ?_; rotate_left 1; rfl; (obtain ⟨_, _, rfl⟩ := h.more; go_simp; try rfl)); try simp only [Act.put, zqA, zqB, zqC])
    refine wpPl_nil ?_
    go_wp2
    go_ret
    exact ⟨ret_bool (by simp [valRight]), by repeat (first | exact Ext.refl _ | apply Ext.drew | apply Ext.alloc | apply Ext.more_)⟩
  by_cases h4 : k = 4
  · subst h4
    clear h0 h1 h2 h3
    go_enter Tryz.func67, Tryz.ntmps67
    go_wp2
    refine wp_plan (S := Ext _) [(0, 0), (1, 0), (2, 0), (3, 1), (4, 0), (5, 0)] [] (by kernel_rfl) (by kernel_rfl) (by kernel_rfl) (fun _ _ d _ _ h => by cases d <;> exact h) (Ext.drew (Ext.refl _)) ?_
    iterate 3 ((refine wpPl_read (v := ?_) rfl ?_ (fun _ h => ?_) ?_; rotate_left 1; rfl; (obtain ⟨_, _, rfl⟩ := h.more; go_simp; try rfl)); try simp only [Act.put, zqA, zqB, zqC])
    (refine wpPl_eff rfl ?_ (fun K hK => ?_); rfl; go_simp; refine (bad_any _ _).mono ?_; rintro e w' ⟨rfl, hb⟩; obtain ⟨os, d, rfl⟩ := hb.more; refine hK _ _ ?_ ?_; (repeat (first | (with_reducible (first | exact Ext.refl _ | exact ext_d _ _ _ _ | exact ext_app _ _ _ _ _ | exact ext_app2 _ _ _ _ _ _ | exact ext_app3 _ _ _ _ _ _ _ | exact ext_app4 _ _ _ _ _ _ _ _ | exact ext_app5 _ _ _ _ _ _ _ _ _)) | ((with_reducible refine ext_suffix ⟨_, ?_⟩); (try simp only [Array.append_assoc]); rfl) | (with_reducible (first | apply Ext.drew | apply Ext.alloc | apply Ext.more_)) | apply Ext.drew | apply Ext.alloc | apply Ext.more_)))
    try simp only [Act.put, zqA, zqB, zqC]
    iterate 2 ((refine wpPl_read (v := ?_) rfl ?_ (fun _ h => ?_) ?_; rotate_left 1; rfl; (obtain ⟨_, _, rfl⟩ := h.more; go_simp; try rfl)); try simp only [Act.put, zqA, zqB, zqC])
    refine wpPl_nil ?_
    go_wp2
    go_ret
    exact ⟨ret_bool (by simp [valRight]), by repeat (first | exact Ext.refl _ | apply Ext.drew | apply Ext.alloc | apply Ext.more_)⟩
  have e : valRight ⟨k, m, ex, t, b, f⟩ = false := by simp [valRight, h0, h1, h2, h3, h4]
  rw [e]; clear e
  have h0 : (k == 0) = false := by simp [h0]
  have h1 : (k == 1) = false := by simp [h1]
  have h2 : (k == 2) = false := by simp [h2]
  have h3 : (k == 3) = false := by simp [h3]
  have h4 : (k == 4) = false := by simp [h4]
  go_enter Tryz.func67, Tryz.ntmps67
  go_wp2
  go_ret
  exact ⟨rfl, by repeat (first | exact Ext.refl _ | apply Ext.drew | apply Ext.alloc | apply Ext.more_)⟩
end Go.Proofs.YtkcoikelcmpceaaGreatDoor
namespace Go.Proofs.YtkcoikelcmpceaaGreatDoor
open Go.RowKit
def fitsB (r c : Int) : Bool := decide (1 ≤ r) && decide (1 ≤ c) && decide (r ≤ 4096) && decide (c ≤ 4096 / r)
theorem fits_mul {r c : Int} (h : fitsB r c = true) : 1 ≤ r ∧ 1 ≤ c ∧ r ≤ 4096 ∧ c ≤ 4096 ∧ 1 ≤ r * c ∧ r * c ≤ 4096 := by
  simp only [fitsB, Bool.and_eq_true, decide_eq_true_eq] at h
  obtain ⟨⟨⟨h1, h2⟩, h3⟩, h4⟩ := h
  have h5 : r * (4096 / r) ≤ 4096 := Int.mul_ediv_self_le (by omega)
  have h6 : r * c ≤ r * (4096 / r) := Int.mul_le_mul_of_nonneg_left h4 (by omega)
  have h7 : c ≤ 4096 := by have := Int.ediv_le_self (a := 4096) r (by omega); omega
  have h8 : 1 * 1 ≤ r * c := Int.mul_le_mul h1 h2 (by omega) (by omega)
  exact ⟨h1, h2, h3, h7, by omega, by omega⟩
set_option maxHeartbeats 400000 in
theorem fits_any (r c : Int) (w : World) :
    Calls Tryz.prog 66 #[.int .i64 r, .int .i64 c] w fun e w' => e = .returned (.bool (fitsB r c)) ∧ w = w' := by
  by_cases h1 : 1 ≤ r
  · by_cases h2 : 1 ≤ c
    · by_cases h3 : r ≤ 4096
      · have e : fitsB r c = decide (c ≤ 4096 / r) := by simp [fitsB, h1, h2, h3]
        rw [e]
        go_enter Tryz.func66, Tryz.ntmps66
        go_wp2
        go_ret
        exact ⟨rfl, rfl⟩
      · have e : fitsB r c = false := by simp [fitsB, h3]
        rw [e]
        go_enter Tryz.func66, Tryz.ntmps66
        go_wp2
        go_ret
        exact ⟨rfl, rfl⟩
    · have e : fitsB r c = false := by simp [fitsB, h2]
      rw [e]
      go_enter Tryz.func66, Tryz.ntmps66
      go_wp2
      go_ret
      exact ⟨rfl, rfl⟩
  · have e : fitsB r c = false := by simp [fitsB, h1]
    rw [e]
    go_enter Tryz.func66, Tryz.ntmps66
    go_wp2
    go_ret
    exact ⟨rfl, rfl⟩
/-- An array as it comes in or goes from call to call. -/
structure ArrIn (w : World) (A : Option Addr) (n cap : Nat) (l : List Val) : Prop where
  rd : SlV 0 w A l
  len : l.length = n
  cap : n ≤ cap
  small : n ≤ 9223372036854775807
  ok : ∀ x ∈ l, x.ok
theorem ArrIn.ext {w w' : World} {A : Option Addr} {n cap : Nat} {l : List Val} (h : ArrIn w A n cap l) (hb : Ext w w') : ArrIn w' A n cap l := ⟨h.rd.ext hb, h.len, h.cap, h.small, h.ok⟩
theorem ArrIn.at {w : World} {A : Option Addr} {n cap : Nat} {l : List Val} (h : ArrIn w A n cap l) {k : Nat} (hk : k < n) :
    ∃ x b off, l[k]? = some x ∧ x.ok ∧ A = some ⟨b, off, none⟩ ∧ ValAt w b (off + k * 6) x := by
  have hl : k < l.length := by rw [h.len]; exact hk
  obtain ⟨b, off, hA, _, hv⟩ := h.rd.at (List.getElem?_eq_getElem hl)
  exact ⟨l[k], b, off, List.getElem?_eq_getElem hl, h.ok _ (List.getElem_mem hl), hA, hv⟩
def rightA (r c : Int) (l : List Val) : Bool := fitsB r c && decide ((l.length : Int) = r * c) && l.all valRight
set_option maxHeartbeats 400000 in
theorem right_any (r c : Int) (A : Option Addr) (n cap : Nat) (l : List Val) (w : World) (h : ArrIn w A n cap l) :
    Calls Tryz.prog 23 #[AV r c (.slice A n cap)] w fun e w' => e = .returned (.bool (rightA r c l)) ∧ Ext w w' := by
  have hsm := h.small
  by_cases hf : fitsB r c = true
  · obtain ⟨f1, f2, f3, f4, f5, f6⟩ := fits_mul hf
    have hw : IntKind.i64.wrap (r * c) = r * c := by rw [IntKind.wrap_i64]; omega
    by_cases hn : (n : Int) = r * c
    · have e : rightA r c l = l.all valRight := by simp [rightA, hf, h.len, hn]
      generalize hR : rightA r c l = R at *
      have HR := Lib.hid e
      clear e hR
      have hn' : ((n : Int) != r * c) = false := by simp [hn]
      have HN := Lib.hid hn
      clear hn
      go_enter Tryz.func23, Tryz.ntmps23
      go_wp2_with (go_at_call 66; refine (fits_any _ _ _).mono ?_; rintro e w' ⟨rfl, rfl⟩)
      go_loopw [24] (fun i wr => ∃ (k : Nat) (os : Array Obj) (d : Nat), k ≤ n ∧ i = .int .i64 k ∧ wr = more (w.alloc (Obj.cells #[.int .i64 r, .int .i64 c, .slice A n cap] 33)) os d ∧ Hid (∀ j x, j < k → l[j]? = some x → valRight x = true)) (fun i _ => n - (intOf i).toNat)
      case atStart => exact ⟨0, #[], _, Nat.zero_le _, rfl, (more_none _).symm, fun j x hj => absurd hj (Nat.not_lt_zero _)⟩
      case round =>
        obtain ⟨k, os, d, hk, rfl, rfl, H⟩ := hrel
        by_cases hlt : k < n
        · obtain ⟨x, b, off, hx, hxo, rfl, hv⟩ := h.at hlt
          obtain ⟨v0, v1, v2, v3, v4, v5⟩ := hv
          have hbl : b < w.heap.size := lt_of_cell v0
          by_cases hvr : valRight x = true
          · go_wp2_with (go_at_call 67; refine (valRight_any _ _ _ _ _ _ _ hxo.2.1 hxo.2.2.2.1).mono ?_; rintro e w' ⟨rfl, hb⟩; obtain ⟨os', d', rfl⟩ := hb.more)
            refine ⟨⟨k + 1, _, _, by omega, by go_num, rfl, ?_⟩, by simp [intOf]; omega⟩
            intro j y hj hy
            by_cases hjk : j = k
            · subst hjk
              obtain rfl : x = y := by rw [hx] at hy; simpa using hy
              exact hvr
            · exact H.out j y (by omega) hy
          · have hvr' : valRight x = false := by simpa using hvr
            have hR : R = false := by
              rw [HR.out]
              exact List.all_eq_false.2 ⟨x, List.mem_of_getElem? hx, hvr⟩
            have HR2 := Lib.hid hR
            clear hR hvr
            go_wp2_with (go_at_call 67; refine (valRight_any _ _ _ _ _ _ _ hxo.2.1 hxo.2.2.2.1).mono ?_; rintro e w' ⟨rfl, hb⟩; obtain ⟨os', d', rfl⟩ := hb.more)
            go_ret
            exact ⟨ret_bool HR2.out.symm, by repeat (first | exact Ext.refl _ | apply Ext.drew | apply Ext.alloc | apply Ext.more_)⟩
        · have hR : R = true := by
            rw [HR.out]
            refine List.all_eq_true.2 fun x hx => ?_
            obtain ⟨j, hj, rfl⟩ := List.getElem_of_mem hx
            exact H.out j _ (by have := h.len; omega) (List.getElem?_eq_getElem hj)
          have HR2 := Lib.hid hR
          clear hR
          go_wp2
          go_ret
          exact ⟨ret_bool HR2.out.symm, by repeat (first | exact Ext.refl _ | apply Ext.drew | apply Ext.alloc | apply Ext.more_)⟩
    · have e : rightA r c l = false := by simp [rightA, h.len, hn]
      rw [e]; clear e
      have hn' : ((n : Int) != r * c) = true := by simp [hn]
      clear hn
      go_enter Tryz.func23, Tryz.ntmps23
      go_wp2_with (go_at_call 66; refine (fits_any _ _ _).mono ?_; rintro e w' ⟨rfl, rfl⟩)
      go_ret
      exact ⟨rfl, by repeat (first | exact Ext.refl _ | apply Ext.drew | apply Ext.alloc | apply Ext.more_)⟩
  · have e : rightA r c l = false := by simp [rightA, hf]
    have hf' : fitsB r c = false := by simpa using hf
    rw [e]; clear e hf
    go_enter Tryz.func23, Tryz.ntmps23
    go_wp2_with (go_at_call 66; refine (fits_any _ _ _).mono ?_; rintro e w' ⟨rfl, rfl⟩)
    go_ret
    exact ⟨rfl, by repeat (first | exact Ext.refl _ | apply Ext.drew | apply Ext.alloc | apply Ext.more_)⟩
end Go.Proofs.YtkcoikelcmpceaaGreatDoor
namespace Go.Proofs.YtkcoikelcmpceaaGreatDoor
open Go.RowKit
theorem more_alloc (w : World) (os : Array Obj) (d : Nat) (o : Obj) : (more w os d).alloc o = more w (os.push o) d := by
  simp [more, World.alloc]
end Go.Proofs.YtkcoikelcmpceaaGreatDoor
namespace Go.Proofs.YtkcoikelcmpceaaGreatDoor
open Go.RowKit
theorem SlV.one {w : World} {n base : Nat} {k m e : Int} {t : ByteArray} {b : Bool} {f : Int} {ty : TypeId} (hn : n = w.heap.size) (hb : base ≤ n) :
    SlV base (w.alloc (.cells #[.int .i64 k, .int .i64 m, .int .i64 e, .string t, .bool b, .int .i64 f] ty)) (some ⟨n, 0, none⟩) [⟨k, m, e, t, b, f⟩] := fun j u hu => by
  refine ⟨n, 0, rfl, hb, ?_⟩
  rw [World.cell?_alloc_at _ _ _ _ hn, Nat.zero_add, ← hu]
  simp only [vcells, Val.cells, List.flatMap_cons, List.flatMap_nil, List.append_nil]
  simp
/-- What a call hands back: an array in new memory. -/
def ArrO (base : Nat) (w' : World) (e : Ending) (r c : Int) (l : List Val) : Prop :=
  ∃ A cap, e = .returned (AV r c (.slice A l.length cap)) ∧ SlV base w' A l ∧ l.length ≤ cap
def bad9 : Val := ⟨4, 0, 0, ⟨#[]⟩, false, 9⟩
def badV (f : Int) : Val := ⟨4, 0, 0, ⟨#[]⟩, false, f⟩
set_option maxHeartbeats 400000 in
theorem one_right (k m ex f : Int) (t : ByteArray) (b : Bool) (w : World) (hm : I64 m) (ht : t.size ≤ 9223372036854775807) (hr : valRight ⟨k, m, ex, t, b, f⟩ = true) :
    Calls Tryz.prog 64 #[VV k m ex t b f] w fun e w' => ArrO w.heap.size w' e 1 1 [⟨k, m, ex, t, b, f⟩] ∧ Ext w w' := by
  go_enter Tryz.func64, Tryz.ntmps64
  go_wp2_with (go_at_call 67; refine (valRight_any _ _ _ _ _ _ _ hm ht).mono ?_; rintro e w' ⟨rfl, hb⟩; obtain ⟨os, d, rfl⟩ := hb.more)
  refine bodyPost_ret (v := AV 1 1 (.slice (some ⟨w.heap.size + 1 + 1 + os.size, 0, none⟩) 1 1)) (by simp [results, Tryz.results64, go_sem]) rfl ⟨⟨_, _, rfl, ?_, Nat.le_refl _⟩, by repeat (first | exact Ext.refl _ | apply Ext.drew | apply Ext.alloc | apply Ext.more_)⟩
  exact SlV.one (by simp) (by omega)
set_option maxHeartbeats 400000 in
theorem broken_any (w : World) :
    Calls Tryz.prog 128 #[] w fun e w' => ArrO w.heap.size w' e 1 1 [bad9] ∧ Ext w w' := by
  have hb9 : badF 9 = 9 := by decide
  have hr : valRight ⟨4, 0, 0, ⟨#[]⟩, false, 9⟩ = true := by decide
  have hm0 : I64 0 := ⟨by omega, by omega⟩
  have ht0 : (⟨#[]⟩ : ByteArray).size ≤ 9223372036854775807 := by decide
  go_enter Tryz.func128, Tryz.ntmps128
  go_wp2_with (first | (go_at_call 65; refine (bad_any _ _).mono ?_; rintro e w' ⟨rfl, hb⟩; obtain ⟨os, d, rfl⟩ := hb.more) | (go_at_call 64; refine (one_right 4 0 0 9 ⟨#[]⟩ false _ hm0 ht0 hr).mono ?_; rintro e w' ⟨⟨A, cap, rfl, hs, hcap⟩, hb⟩; obtain ⟨os, d, rfl⟩ := hb.more))
  exact bodyPost_ret (v := AV 1 1 (.slice A 1 cap)) (by simp [results, Tryz.results128, go_sem]) rfl ⟨⟨_, _, rfl, (by (try simp only [more_more] at hs); (try simp only [drew_more] at hs); (try simp only [more_drew] at hs); exact Rd.swap hs (by first | (simp; done) | (simp; omega) | omega) (by first | (simp; done) | (simp; omega) | omega) (by first | (simp; done) | (simp; omega) | omega)), hcap⟩, by repeat (first | exact Ext.refl _ | apply Ext.drew | apply Ext.alloc | apply Ext.more_)⟩
theorem valRight_bad (f : Int) (h : 1 ≤ f ∧ f ≤ 9) : valRight (badV f) = true := by
  have hb : badF f = f := by unfold badF; rw [if_neg (by omega)]
  simp [valRight, badV, hb, eqV]
set_option maxHeartbeats 400000 in
theorem tooGreat_any (w : World) :
    Calls Tryz.prog 166 #[] w fun e w' => ArrO w.heap.size w' e 1 1 [badV 5] ∧ Ext w w' := by
  have hb9 : badF 5 = 5 := by decide
  have hr : valRight ⟨4, 0, 0, ⟨#[]⟩, false, 5⟩ = true := by decide
  have hm0 : I64 0 := ⟨by omega, by omega⟩
  have ht0 : (⟨#[]⟩ : ByteArray).size ≤ 9223372036854775807 := by decide
  go_enter Tryz.func166, Tryz.ntmps166
  go_wp2_with (first | (go_at_call 65; refine (bad_any _ _).mono ?_; rintro e w' ⟨rfl, hb⟩; obtain ⟨os, d, rfl⟩ := hb.more) | (go_at_call 64; refine (one_right 4 0 0 5 ⟨#[]⟩ false _ hm0 ht0 hr).mono ?_; rintro e w' ⟨⟨A, cap, rfl, hs, hcap⟩, hb⟩; obtain ⟨os, d, rfl⟩ := hb.more))
  exact bodyPost_ret (v := AV 1 1 (.slice A 1 cap)) (by simp [results, Tryz.results166, go_sem]) rfl ⟨⟨_, _, rfl, (by (try simp only [more_more] at hs); (try simp only [drew_more] at hs); (try simp only [more_drew] at hs); exact Rd.swap hs (by first | (simp; done) | (simp; omega) | omega) (by first | (simp; done) | (simp; omega) | omega) (by first | (simp; done) | (simp; omega) | omega)), hcap⟩, by repeat (first | exact Ext.refl _ | apply Ext.drew | apply Ext.alloc | apply Ext.more_)⟩
def oneV (x : Val) : Val := if valRight x then x else bad9
set_option maxHeartbeats 400000 in
theorem sound_any (k m ex f : Int) (t : ByteArray) (b : Bool) (w : World) (hm : I64 m) (ht : t.size ≤ 9223372036854775807) (R : Val) (hR : oneV ⟨k, m, ex, t, b, f⟩ = R) :
    Calls Tryz.prog 163 #[VV k m ex t b f] w fun e w' => e = .returned (VV R.kind R.mant R.exp R.text R.truth R.fault) ∧ Ext w w' := by
  subst hR
  by_cases hr : valRight ⟨k, m, ex, t, b, f⟩ = true
  · have e : oneV ⟨k, m, ex, t, b, f⟩ = ⟨k, m, ex, t, b, f⟩ := by simp [oneV, hr]
    rw [e]; clear e
    go_enter Tryz.func163, Tryz.ntmps163
    go_wp2_with (go_at_call 67; refine (valRight_any _ _ _ _ _ _ _ hm ht).mono ?_; rintro e w' ⟨rfl, hb⟩; obtain ⟨os, d, rfl⟩ := hb.more)
    exact bodyPost_ret (v := VV k m ex t b f) (by simp [results, Tryz.results163, go_sem]) rfl ⟨rfl, by repeat (first | exact Ext.refl _ | apply Ext.drew | apply Ext.alloc | apply Ext.more_)⟩
  · have e : oneV ⟨k, m, ex, t, b, f⟩ = bad9 := by simp [oneV, hr]
    have hr' : valRight ⟨k, m, ex, t, b, f⟩ = false := by simpa using hr
    rw [e]; clear e hr
    have hb9 : badF 9 = 9 := by decide
    go_enter Tryz.func163, Tryz.ntmps163
    go_wp2_with (first | (go_at_call 67; refine (valRight_any _ _ _ _ _ _ _ hm ht).mono ?_; rintro e w' ⟨rfl, hb⟩; obtain ⟨os, d, rfl⟩ := hb.more) | (go_at_call 65; refine (bad_any _ _).mono ?_; rintro e w' ⟨rfl, hb⟩; obtain ⟨os, d, rfl⟩ := hb.more))
    exact bodyPost_ret (v := VV 4 0 0 ⟨#[]⟩ false 9) (by simp [results, Tryz.results163, go_sem]) rfl ⟨rfl, by repeat (first | exact Ext.refl _ | apply Ext.drew | apply Ext.alloc | apply Ext.more_)⟩
end Go.Proofs.YtkcoikelcmpceaaGreatDoor
namespace Go.Proofs.YtkcoikelcmpceaaGreatDoor
open Go.RowKit NM
/-- value.ToNum: the number, and the fault. -/
def tnP (v : Val) : Int × Int := if v.kind = 1 then (v.mant, v.exp) else if v.kind = 2 then (parS v.text).getD (0, 0) else if v.kind = 3 ∧ v.truth = true then (1, 0) else (0, 0)
def tnF (v : Val) : Int := if v.kind = 2 then (if (parS v.text).isSome then 0 else 2) else if v.kind = 4 then v.fault else 0
def numRes (r : Option (Int × Int)) : Val := if r.isSome then ⟨1, rm r, re r, ⟨#[]⟩, false, 0⟩ else badV 5
def bad_ (f : Int) : Val := badV (badF f)
def truthV (b : Bool) : Val := ⟨3, 0, 0, ⟨#[]⟩, b, 0⟩
def Val.right (x : Val) : Prop := valRight x = true
theorem right_num {m e : Int} (h : Rt m e) : Val.right ⟨1, m, e, ⟨#[]⟩, false, 0⟩ := by
  unfold Val.right valRight
  rw [if_neg (show ¬ (1 : Int) = 0 by decide), if_pos rfl, Bool.and_eq_true]
  exact ⟨by rw [numRight_Rt]; exact decide_eq_true h, decide_eq_true rfl⟩
theorem badF_bd (f : Int) : 1 ≤ badF f ∧ badF f ≤ 9 := by unfold badF; split <;> omega
theorem right_bad (f : Int) : (bad_ f).right := valRight_bad _ (badF_bd f)
theorem right_badV {f : Int} (h : 1 ≤ f ∧ f ≤ 9) : (badV f).right := valRight_bad _ h
theorem right_text (t : ByteArray) : (textV t).right := by
  unfold textV
  by_cases h : 255 < t.size
  · rw [if_pos h]; exact valRight_bad 2 (by decide)
  · rw [if_neg h]
    unfold Val.right valRight
    rw [if_neg (show ¬ (2 : Int) = 0 by decide), if_neg (show ¬ (2 : Int) = 1 by decide), if_pos rfl]
    refine decide_eq_true ?_
    unfold textV
    rw [if_neg h]
theorem right_truth (b : Bool) : (truthV b).right := by
  unfold Val.right valRight truthV
  rw [if_neg (show ¬ (3 : Int) = 0 by decide), if_neg (show ¬ (3 : Int) = 1 by decide), if_neg (show ¬ (3 : Int) = 2 by decide), if_pos rfl]
  exact decide_eq_true rfl
theorem Val.right.rt {x : Val} (h : x.right) (h1 : x.kind = 1) : Rt x.mant x.exp := by
  have := (right_cases h).2.1 h1
  rw [numRight_Rt] at this
  exact of_decide_eq_true this
/-- What a right value is, written out. -/
theorem Val.right.form {x : Val} (h : x.right) : x = Val.only 0 ∨ (∃ m e, x = ⟨1, m, e, ⟨#[]⟩, false, 0⟩ ∧ Rt m e) ∨ (∃ t, x = ⟨2, 0, 0, t, false, 0⟩ ∧ t.size ≤ 255) ∨ (∃ b, x = truthV b) ∨ (∃ f, x = badV f ∧ 1 ≤ f ∧ f ≤ 9) := by
  have hc := right_cases h
  unfold Val.right valRight at h
  by_cases h0 : x.kind = 0
  · exact Or.inl (hc.1.2 h0)
  · rw [if_neg h0] at h
    by_cases h1 : x.kind = 1
    · rw [if_pos h1, Bool.and_eq_true, numRight_Rt] at h
      exact Or.inr (Or.inl ⟨x.mant, x.exp, of_decide_eq_true h.2, of_decide_eq_true h.1⟩)
    · rw [if_neg h1] at h
      by_cases h2 : x.kind = 2
      · rw [if_pos h2] at h
        have h3 := hc.2.2.1 h2
        refine Or.inr (Or.inr (Or.inl ⟨x.text, ?_, h3⟩))
        have := of_decide_eq_true h
        unfold textV at this
        rw [if_neg (by omega)] at this
        exact this
      · rw [if_neg h2] at h
        by_cases h3 : x.kind = 3
        · rw [if_pos h3] at h
          exact Or.inr (Or.inr (Or.inr (Or.inl ⟨x.truth, of_decide_eq_true h⟩)))
        · rw [if_neg h3] at h
          by_cases h4 : x.kind = 4
          · rw [if_pos h4] at h
            have hf := hc.2.2.2 h4
            refine Or.inr (Or.inr (Or.inr (Or.inr ⟨x.fault, ?_, hf⟩)))
            have := of_decide_eq_true h
            rw [show badF x.fault = x.fault by unfold badF; rw [if_neg (by omega)]] at this
            exact this
          · rw [if_neg h4] at h; cases h
theorem i64_small {n : Int} (h : -1000 ≤ n ∧ n ≤ 1000) : I64 n := by unfold I64; omega
theorem Val.right.ok {x : Val} (h : x.right) : x.ok := by
  have z : I64 0 := i64_small (by decide)
  have s0 : (0 : Nat) ≤ 9223372036854775807 := Nat.zero_le _
  rcases h.form with rfl | ⟨m, e, rfl, hr⟩ | ⟨t, rfl, ht⟩ | ⟨b, rfl⟩ | ⟨f, rfl, hf⟩
  · exact ⟨z, z, z, s0, z⟩
  · obtain ⟨r1, r2⟩ := Rt_i64 hr
    exact ⟨i64_small (n := 1) (by decide), r1, r2, s0, z⟩
  · exact ⟨i64_small (n := 2) (by decide), z, z, Nat.le_trans ht (by decide), z⟩
  · exact ⟨i64_small (n := 3) (by decide), z, z, s0, z⟩
  · exact ⟨i64_small (n := 4) (by decide), z, z, s0, i64_small (n := f) (by omega)⟩
theorem rt_zero : Rt 0 0 := Or.inl ⟨rfl, rfl⟩
theorem par_rt {s : ByteArray} {p : Int × Int} (h : parS s = some p) : Rt p.1 p.2 := by
  unfold parS at h
  by_cases hl : 255 < s.size
  · rw [if_pos hl] at h; cases h
  · rw [if_neg hl] at h
    unfold parM at h
    cases hr : runS (bl s) st0 with
    | none => rw [hr] at h; cases h
    | some S =>
      rw [hr, Option.bind_some] at h
      unfold endS at h
      split at h
      · exact rnd_right h
      · cases h
theorem tn_rt {x : Val} (h : x.right) : Rt (tnP x).1 (tnP x).2 := by
  rcases h.form with rfl | ⟨m, e, rfl, hr⟩ | ⟨t, rfl, ht⟩ | ⟨b, rfl⟩ | ⟨f, rfl, hf⟩
  · exact rt_zero
  · exact hr
  · show Rt ((parS t).getD (0, 0)).1 ((parS t).getD (0, 0)).2
    cases hp : parS t with
    | none => exact rt_zero
    | some p => exact par_rt hp
  · cases b
    · exact rt_zero
    · exact rt_one
  · exact rt_zero
theorem right_res {r : Option (Int × Int)} (h : ∀ p, r = some p → Rt p.1 p.2) : (numRes r).right := by
  unfold numRes
  cases r with
  | none => exact right_badV (by decide)
  | some p => exact right_num (h p rfl)
theorem addS_rt {a b c d : Int} {p : Int × Int} (h : addS a b c d = some p) : Rt p.1 p.2 := by
  unfold addS at h
  split at h
  · exact rnd_right h
  · cases h
theorem subS_rt {a b c d : Int} {p : Int × Int} (h : subS a b c d = some p) : Rt p.1 p.2 := by
  unfold subS at h
  split at h
  · exact rnd_right h
  · cases h
theorem divS_rt {a b c d : Int} {p : Int × Int} (h : divS a b c d = some p) : Rt p.1 p.2 := by
  unfold divS at h
  split at h
  · unfold divR at h
    exact rnd_right h
  · cases h
end Go.Proofs.YtkcoikelcmpceaaGreatDoor
namespace Go.Proofs.YtkcoikelcmpceaaGreatDoor
open Go.RowKit Go.Maps Go.WideMaps
/-- An element is held as it is. -/
def tabR (v : Value) : Option (DataW Value × List MemPlace) := some (.held v, [])
abbrev Tab1 := List (List UInt8 × Value)
def tabF (D : DataW Value) (L : Tab1) : DataW Value := L.foldl (fun D p => D.put (.string p.1) (.held p.2)) D
def tabD (L : Tab1) : DataW Value := tabF (.map []) L
def tabAt (L : Tab1) (s : List UInt8) : Option Value := (L.find? fun p => p.1 == s).map (·.2)
theorem tabAt_cons (k : List UInt8) (v : Value) (L : Tab1) (s : List UInt8) : tabAt ((k, v) :: L) s = if k = s then some v else tabAt L s := by
  unfold tabAt
  by_cases h : k = s
  · rw [if_pos h, List.find?_cons_of_pos (by simpa using h)]; rfl
  · rw [if_neg h, List.find?_cons_of_neg (by simpa using h)]
theorem tabAt_none {L : Tab1} {s : List UInt8} (h : ∀ p ∈ L, p.1 ≠ s) : tabAt L s = none := by
  unfold tabAt
  rw [List.find?_eq_none.2 (fun p hp => by simpa using h p hp)]; rfl
theorem tabF_at : ∀ (L : Tab1) (D : DataW Value), IsMap D → L.Pairwise (fun p q => p.1 ≠ q.1) → ∀ (s : List UInt8) (z : DataW Value),
    (tabF D L).atKey (.string s) z = ((tabAt L s).map (fun v => DataW.held v)).getD (D.atKey (.string s) z) ∧ Maps.has (tabF D L) (.string s) = ((tabAt L s).isSome || Maps.has D (.string s))
  | [], D, _, _, s, z => ⟨rfl, rfl⟩
  | (k, v) :: L, D, hD, hp, s, z => by
    obtain ⟨h1, h2⟩ := List.pairwise_cons.1 hp
    have ih := tabF_at L (D.put (.string k) (.held v)) (hD.put _ _) h2 s z
    have e : tabF D ((k, v) :: L) = tabF (D.put (.string k) (.held v)) L := rfl
    rw [e, ih.1, ih.2, tabAt_cons]
    by_cases h : k = s
    · subst h
      rw [if_pos rfl, tabAt_none (fun p hp => (h1 p hp).symm)]
      have hkl : WideAt.IsKeyLit (Lit.string k) := trivial
      exact ⟨atKey_put_same hD hkl _ _, by rw [has_put_same hD hkl]; rfl⟩
    · have hne : Lit.string s ≠ Lit.string k := fun e => h (by injection e with e; exact e.symm)
      rw [if_neg h, atKey_put_other hne, has_put_other hne]
      exact ⟨rfl, rfl⟩
theorem tab_at (L : Tab1) (hp : L.Pairwise (fun p q => p.1 ≠ q.1)) (s : List UInt8) (z : Value) : (tabD L).atKey (.string s) (.held z) = .held ((tabAt L s).getD z) ∧ Maps.has (tabD L) (.string s) = (tabAt L s).isSome := by
  have h := tabF_at L (.map []) isMap_empty hp s (.held z)
  unfold tabD
  refine ⟨h.1.trans ?_, h.2.trans (by rw [show Maps.has (.map [] : DataW Value) (.string s) = false from rfl, Bool.or_false])⟩
  cases tabAt L s <;> rfl
/-- A table in block b. -/
def TabW (P : Program) (k : TypeId) (L : Tab1) (b : Nat) (w : World) : Prop := w.ownsMap P k tabR b L.length (tabD L)
theorem TabW.ext {P : Program} {k : TypeId} {L : Tab1} {b : Nat} {w w' : World} (h : TabW P k L b w) (hx : Ext w w') : TabW P k L b w' :=
  World.ownsMap.kept (row := none) h ⟨hx.os, hx.tape, hx.output, hx.size, fun i hi _ => hx.block hi⟩ (by simp)
theorem tab_run {P : Program} {k t e : TypeId} {L : Tab1} {b : Nat} {w : World} (h : TabW P k L b w) (hk : P.underlying k = some .string) (ht : P.underlying t = some (.map k e)) (hp : L.Pairwise (fun p q => p.1 ≠ q.1)) {z : Value} (hz : (zeroValue e).run P w = .ok z w) (s : ByteArray) (hs : s.size ≤ maxLen) :
    (Instr.lookup t (.map (some b)) (.string s) true).run P w = .ok (.tuple #[(tabAt L s.data.toList).getD z, .bool (tabAt L s.data.toList).isSome]) w := by
  obtain ⟨v, ps, h1, h2⟩ := World.ownsMap.look_ok h (string_keyed hk) ht hz (zd := .held z) (zp := []) rfl (keyOf_string_mk hk hs)
  obtain ⟨e1, e2⟩ := tab_at L hp s.data.toList z
  rw [e1] at h2
  rw [e2] at h1
  unfold tabR at h2
  simp only [Option.some.injEq, Prod.mk.injEq, DataW.held.injEq] at h2
  rw [h1, h2.1]
theorem tab_made (w : World) (P : Program) (k : TypeId) : TabW P k [] w.heap.size (w.alloc (.map #[] 0)) := World.ownsMap_made w P k tabR
/-- One entry more. -/
theorem tab_put {P : Program} {k t e : TypeId} {L : Tab1} {b : Nat} {w : World} (h : TabW P k L b w) (hk : P.underlying k = some .string) (ht : P.underlying t = some (.map k e)) (hn : L.length < maxLen) (s : ByteArray) (hs : s.size ≤ maxLen) (v : Value) :
    ∃ w', (Instr.mapUpdate t (.map (some b)) (.string s) v).run P w = .ok () w' ∧ TabW P k (L ++ [(s.data.toList, v)]) b w' ∧ w.grownBy w' (some b) := by
  obtain ⟨w', h1, h2, h3⟩ := World.ownsMap.update h (string_keyed hk) ht hn (keyOf_string_mk hk hs) (show tabR v = some (.held v, []) from rfl)
  refine ⟨w', h1, ?_, h3⟩
  unfold TabW
  rw [List.length_append]
  have : tabD (L ++ [(s.data.toList, v)]) = (tabD L).put (.string s.data.toList) (.held v) := by unfold tabD tabF; rw [List.foldl_append]; rfl
  rw [this]; exact h2
/-- A literal's entry. -/
theorem wpL_insert {P : Program} {w : World} {ops : Array Oper} {rest : List Oper} {o : Oper} {a : Act} {Q : Exit → Act → World → Prop} (hg : o.guard = none) (m x v : Operand) (t : TypeId) (hop : o.op = Op.insert t m x v)
    (k e : TypeId) (hk : P.underlying k = some .string) (ht : P.underlying t = some (.map k e)) (L : Tab1) (b : Nat) (hm : a.eval m = .map (some b)) (h : TabW P k L b w) (hn : L.length < maxLen) (s : ByteArray) (hx : a.eval x = .string s) (hs : s.size ≤ maxLen) (val : Value) (hv : a.eval v = val)
    (hK : ∀ w', TabW P k (L ++ [(s.data.toList, val)]) b w' → w.grownBy w' (some b) → wpList P ops Q rest (a.put o.dst undef) w') : wpList P ops Q (o :: rest) a w := by
  refine wpList_plain hg fun K' hK' => ?_
  obtain ⟨w', hrun, r1, r2⟩ := tab_put h hk ht hn s hs val
  unfold Oper.wp
  simp [execOp, hop, hm, hx, hv, hrun, Result.andThen]
  exact hK' _ _ (hK w' r1 r2)
/-- A table under way, and the variables that its entries lead to. -/
structure TabS (P : Program) (k : TypeId) (w0 : World) (b : Nat) (L : Tab1) (B : List (Nat × Obj)) (W : World) : Prop where
  tab : TabW P k L b W
  ext : Ext w0 W
  hb : w0.heap.size ≤ b
  box : ∀ p ∈ B, w0.heap.size ≤ p.1 ∧ p.1 ≠ b ∧ W.heap[p.1]? = some p.2
section
variable {P : Program} {k : TypeId} {w0 : World} {b : Nat} {L : Tab1} {B : List (Nat × Obj)} {W W' : World}
theorem TabS.lt (h : TabS P k w0 b L B W) : b < W.heap.size := World.ownsMap.lt h.tab
theorem TabS.put {L' : Tab1} (h : TabS P k w0 b L B W) (ht : TabW P k L' b W') (hg : W.grownBy W' (some b)) : TabS P k w0 b L' B W' := by
  have hbl : ∀ i, i < W.heap.size → i ≠ b → W'.heap[i]? = W.heap[i]? := fun i hi hne => hg.block i hi (fun e => hne (Option.some.inj e))
  refine ⟨ht, ⟨hg.os.trans h.ext.os, hg.tape.trans h.ext.tape, hg.output.trans h.ext.output, Nat.le_trans h.ext.size hg.size, fun i hi => ?_⟩, h.hb, fun p hp => ?_⟩
  · rw [hbl i (Nat.lt_of_lt_of_le hi h.ext.size) (by have := h.hb; omega)]; exact h.ext.block hi
  · obtain ⟨h0, h1, h2⟩ := h.box p hp
    refine ⟨h0, h1, ?_⟩
    rw [hbl _ ?_ h1]; exact h2
    rcases Nat.lt_or_ge p.1 W.heap.size with hl | hl
    · exact hl
    · rw [Array.getElem?_eq_none hl] at h2; cases h2
theorem TabS.later (h : TabS P k w0 b L B W) (hx : Ext W W') : TabS P k w0 b L B W' := by
  refine ⟨h.tab.ext hx, h.ext.trans hx, h.hb, fun p hp => ?_⟩
  obtain ⟨h0, h1, h2⟩ := h.box p hp
  refine ⟨h0, h1, ?_⟩
  rw [hx.block ?_]; exact h2
  rcases Nat.lt_or_ge p.1 W.heap.size with hl | hl
  · exact hl
  · rw [Array.getElem?_eq_none hl] at h2; cases h2
theorem TabS.new (h : TabS P k w0 b L B W) {o : Obj} (hx : Ext W W') (ho : W'.heap[W.heap.size]? = some o) : TabS P k w0 b L (B ++ [(W.heap.size, o)]) W' := by
  have h' := h.later hx
  refine ⟨h'.tab, h'.ext, h.hb, fun p hp => ?_⟩
  rcases List.mem_append.1 hp with hp | hp
  · exact h'.box p hp
  · obtain rfl := List.mem_singleton.1 hp
    exact ⟨h.ext.size, by have := h.lt; show W.heap.size ≠ b; omega, ho⟩
theorem TabS.start (w : World) (P : Program) (k : TypeId) : TabS P k w w.heap.size [] [] (w.alloc (.map #[] 0)) :=
  ⟨tab_made w P k, (Ext.refl _).alloc _, Nat.le_refl _, fun p hp => by cases hp⟩
end
end Go.Proofs.YtkcoikelcmpceaaGreatDoor
namespace Go.Proofs.YtkcoikelcmpceaaGreatDoor
open Go.RowKit
/-- An array's values in blocks from base on. -/
structure ArrN (base : Nat) (w : World) (A : Option Addr) (n cap : Nat) (l : List Val) : Prop where
  rd : SlV base w A l
  len : l.length = n
  cap : n ≤ cap
  small : n ≤ 9223372036854775807
  ok : ∀ x ∈ l, x.ok
theorem ArrN.arr {base : Nat} {w : World} {A : Option Addr} {n cap : Nat} {l : List Val} (h : ArrN base w A n cap l) : ArrIn w A n cap l := ⟨Rd.mono h.rd (Nat.zero_le _), h.len, h.cap, h.small, h.ok⟩
abbrev fn0 (fid : FuncId) : Value := .func (.func fid) #[] #[]
abbrev fn1 (fid : FuncId) (p : Nat) : Value := .func (.func fid) #[] #[.pointer (some ⟨p, 0, none⟩)]
/-- A look into the table. -/
theorem wpL_look {P : Program} {w : World} {ops : Array Oper} {rest : List Oper} {o : Oper} {a : Act} {Q : Exit → Act → World → Prop} (hg : o.guard = none) (m x : Operand) (t : TypeId) (hop : o.op = Op.lookup t m x true)
    (k e : TypeId) (hk : P.underlying k = some .string) (ht : P.underlying t = some (.map k e)) (L : Tab1) (b : Nat) (hm : a.eval m = .map (some b)) (h : TabW P k L b w) (hp : L.Pairwise (fun p q => p.1 ≠ q.1)) (z : Value) (hz : (zeroValue e).run P w = .ok z w) (s : ByteArray) (hx : a.eval x = .string s) (hs : s.size ≤ maxLen)
    (v : Value) (ok : Bool) (hv : (tabAt L s.data.toList).getD z = v) (hok : (tabAt L s.data.toList).isSome = ok) (hK : wpList P ops Q rest (a.put o.dst (.tuple #[v, .bool ok])) w) : wpList P ops Q (o :: rest) a w := by
  refine wpList_plain hg fun K' hK' => ?_
  have hrun := tab_run h hk ht hp hz s hs
  rw [hv, hok] at hrun
  unfold Oper.wp
  simp [execOp, hop, hm, hx, hrun, Result.andThen]
  exact hK' _ _ hK
end Go.Proofs.YtkcoikelcmpceaaGreatDoor
namespace Go.Proofs.YtkcoikelcmpceaaGreatDoor
open Go.RowKit
theorem neq_val (k1 m1 e1 f1 k2 m2 e2 f2 : Int) (t1 t2 : ByteArray) (b1 b2 : Bool) (w : World) : (binOp .neq 30 (VV k1 m1 e1 t1 b1 f1) (VV k2 m2 e2 t2 b2 f2)).run Tryz.prog w = .ok (.bool (!eqV ⟨k1, m1, e1, t1, b1, f1⟩ ⟨k2, m2, e2, t2, b2, f2⟩)) w := by
  have ht : (t1.toList = t2.toList) ↔ t1 = t2 := ⟨fun h => by
    cases t1; cases t2
    rename_i a b
    have : a.toList = b.toList := by simpa [ByteArray.toList_eq] using h
    simpa using this, fun h => by rw [h]⟩
  simp only [VV, eqV]
  simp [go_sem, ht]
  by_cases h1 : k1 = k2 <;> simp [h1]
  by_cases h2 : m1 = m2 <;> simp [h2]
  by_cases h3 : e1 = e2 <;> simp [h3]
  by_cases h4 : t1 = t2 <;> simp [h4]
  by_cases h5 : b1 = b2 <;> simp [h5]
  by_cases h6 : f1 = f2 <;> simp [h6]
/-- The first k values are alike. -/
def alike (k : Nat) (l l' : List Val) : Prop := ∀ j x y, j < k → l[j]? = some x → l'[j]? = some y → x = y
theorem alike_all {n : Nat} {l l' : List Val} (h1 : l.length = n) (h2 : l'.length = n) (h : alike n l l') : l = l' := by
  apply List.ext_getElem?
  intro i
  by_cases hi : i < n
  · have := h i l[i] l'[i] hi (List.getElem?_eq_getElem _) (List.getElem?_eq_getElem _)
    rw [List.getElem?_eq_getElem (by omega), List.getElem?_eq_getElem (by omega), this]
  · rw [List.getElem?_eq_none (by omega), List.getElem?_eq_none (by omega)]
theorem alike_succ {k : Nat} {l l' : List Val} {x : Val} (h : alike k l l') (hx : l[k]? = some x) (hy : l'[k]? = some x) : alike (k + 1) l l' := by
  intro j a b hj ha hb
  by_cases hjk : j = k
  · subst hjk
    rw [hx] at ha; rw [hy] at hb
    simp_all
  · exact h j a b (by omega) ha hb
def sameA (r c : Int) (l : List Val) (r' c' : Int) (l' : List Val) : Bool := r == r' && c == c' && decide (l = l')
set_option maxHeartbeats 400000 in
theorem refSame_any (r c r' c' : Int) (A B : Option Addr) (n cap n' cap' : Nat) (l l' : List Val) (w : World) (h : ArrIn w A n cap l) (h' : ArrIn w B n' cap' l') :
    Calls Tryz.prog 16 #[AV r c (.slice A n cap), AV r' c' (.slice B n' cap')] w fun e w' => e = .returned (.bool (sameA r c l r' c' l')) ∧ Ext w w' := by
  have hsm := h.small
  have hsm' := h'.small
  generalize hR : sameA r c l r' c' l' = R
  have HR := Lib.hid hR
  clear hR
  have hneq := neq_val
  go_enter Tryz.func16, Tryz.ntmps16
  go_upto_region 1 with (fail)
  refine wp_region_lit ?_
  iterate 6 ((refine wpL_read (v := ?_) rfl ?_ ?_; rotate_left 1; (go_simp; first | done | rfl)); try simp only [Act.put, zqA, zqB, zqC])
  iterate 5 ((refine wpL_gread (v := ?_) (c := ?_) rfl rfl rfl ?_ (fun hc => ?_) ?_; rotate_left 2; (first | exact gc_t _ | exact gc_f _ | exact gc_gt _ _ | exact gc_gf _ _); ((try simp only [gv_of hc]); (try (have hc1 := and_l hc; (try simp only [gv_of hc1]); (try (have hc2 := and_l hc1; (try simp only [gv_of hc2]))))); go_simp; first | done | rfl)); try simp only [Act.put, zqA, zqB, zqC])
  first | (refine wpL_pick_and rfl rfl rfl rfl rfl ?_) | (refine wpL_pick_or rfl rfl rfl rfl rfl ?_)
  try simp only [Act.put, zqA, zqB, zqC]
  (refine wpL_read (v := ?_) rfl ?_ ?_; rotate_left 1; (go_simp; first | done | rfl))
  try simp only [Act.put, zqA, zqB, zqC]
  iterate 7 ((refine wpL_gread (v := ?_) (c := ?_) rfl rfl rfl ?_ (fun hc => ?_) ?_; rotate_left 2; (first | exact gc_t _ | exact gc_f _ | exact gc_gt _ _ | exact gc_gf _ _); ((try simp only [gv_of hc]); (try (have hc1 := and_l hc; (try simp only [gv_of hc1]); (try (have hc2 := and_l hc1; (try simp only [gv_of hc2]))))); go_simp; first | done | rfl)); try simp only [Act.put, zqA, zqB, zqC])
  first | (refine wpL_pick_and rfl rfl rfl rfl rfl ?_) | (refine wpL_pick_or rfl rfl rfl rfl rfl ?_)
  try simp only [Act.put, zqA, zqB, zqC]
  refine wpList_nil ?_
  try go_simp
  go_wp2
  · rename_i hbad
    go_ret
    refine ⟨ret_bool ?_, by repeat (first | exact Ext.refl _ | apply Ext.drew | apply Ext.alloc | apply Ext.more_)⟩
    rw [← HR.out]
    symm
    simp only [bne_iff_ne, ne_eq] at hbad
    rcases hbad with (hb | hb) | hb
    · simp [sameA, hb]
    · simp [sameA, hb]
    · have : ¬ l = l' := by rintro rfl; exact hb (by rw [← h.len, ← h'.len])
      simp [sameA, this]
  · rename_i hgood _ _
    simp only [bne_eq_false_iff_eq] at hgood
    obtain ⟨⟨g1, g2⟩, g3⟩ := hgood
    obtain rfl : n = n' := by omega
    have HR' : Hid (R = decide (l = l')) := by show _ = _; rw [← HR.out, g1, g2]; simp [sameA]
    clear g1 g2 g3
    go_loopw [5] (fun i wr => ∃ k : Nat, k ≤ n ∧ i = .int .i64 k ∧ Ext ((w.alloc (Obj.cells #[.int .i64 r, .int .i64 c, .slice A n cap] 33)).alloc (Obj.cells #[.int .i64 r', .int .i64 c', .slice B n cap'] 33)) wr ∧ Hid (alike k l l')) (fun i _ => n - (intOf i).toNat)
    case atStart => exact ⟨0, Nat.zero_le _, rfl, Ext.refl _, fun j x y hj => absurd hj (Nat.not_lt_zero _)⟩
    case round =>
      obtain ⟨k, hk, rfl, hX, H⟩ := hrel
      obtain ⟨os, d, rfl⟩ := hX.more
      by_cases hlt : k < n
      · obtain ⟨x, b, off, hx, hxo, rfl, hv⟩ := h.at hlt; obtain ⟨v0, v1, v2, v3, v4, v5⟩ := hv; have hbl : b < w.heap.size := lt_of_cell v0
        obtain ⟨y, b', off', hy, hyo, rfl, hv'⟩ := h'.at hlt; obtain ⟨u0, u1, u2, u3, u4, u5⟩ := hv'; have hbl' : b' < w.heap.size := lt_of_cell u0
        by_cases hxy : eqV x y = true
        · go_wp2
          refine wp_plan (S := Ext _) [(0, 0), (1, 0), (2, 0), (3, 0), (4, 0), (5, 0), (6, 0), (7, 0), (8, 0), (9, 0), (10, 0)] [] (by kernel_rfl) (by kernel_rfl) (by kernel_rfl) (fun _ _ d _ _ h => by cases d <;> exact h) (Ext.drew (Ext.refl _)) ?_
          iterate 11 ((refine wpPl_read (v := ?_) rfl ?_ (fun _ h => ?_) ?_; rotate_left 1; rfl; (obtain ⟨_, _, rfl⟩ := h.more; go_simp; try rfl)); try simp only [Act.put, zqA, zqB, zqC])
          refine wpPl_nil ?_
          go_wp2
          refine ⟨⟨k + 1, by omega, by go_num, by repeat (first | exact Ext.refl _ | apply Ext.drew | apply Ext.alloc | apply Ext.more_), ?_⟩, by simp [intOf]; omega⟩
          obtain rfl : x = y := by simpa [eqV] using hxy
          exact alike_succ H.out hx hy
        · have hxy' : eqV x y = false := by simpa using hxy
          have hR : R = false := by
            rw [HR'.out]
            simp only [decide_eq_false_iff_not]
            rintro rfl
            rw [hx] at hy
            simp [eqV] at hxy
            exact hxy (by simpa using hy)
          have HR2 := Lib.hid hR
          clear hR hxy
          go_wp2
          refine wp_plan (S := Ext _) [(0, 0), (1, 0), (2, 0), (3, 0), (4, 0), (5, 0), (6, 0), (7, 0), (8, 0), (9, 0), (10, 0)] [] (by kernel_rfl) (by kernel_rfl) (by kernel_rfl) (fun _ _ d _ _ h => by cases d <;> exact h) (Ext.drew (Ext.refl _)) ?_
          iterate 11 ((refine wpPl_read (v := ?_) rfl ?_ (fun _ h => ?_) ?_; rotate_left 1; rfl; (obtain ⟨_, _, rfl⟩ := h.more; go_simp; try rfl)); try simp only [Act.put, zqA, zqB, zqC])
          refine wpPl_nil ?_
          go_wp2
          go_ret
          exact ⟨ret_bool HR2.out.symm, by repeat (first | exact Ext.refl _ | apply Ext.drew | apply Ext.alloc | apply Ext.more_)⟩
      · have hR : R = true := by
          rw [HR'.out]
          simp only [decide_eq_true_eq]
          obtain rfl : k = n := by omega
          exact alike_all h.len h'.len H.out
        have HR2 := Lib.hid hR
        clear hR
        go_wp2
        go_ret
        exact ⟨ret_bool HR2.out.symm, by repeat (first | exact Ext.refl _ | apply Ext.drew | apply Ext.alloc | apply Ext.more_)⟩
end Go.Proofs.YtkcoikelcmpceaaGreatDoor
namespace Go.Proofs.YtkcoikelcmpceaaGreatDoor
open Go.RowKit
theorem info_val : (Tryz.prog.info? 30).map (fun i => (i.zero, i.size, i.bytes)) = some (some (VV 0 0 0 ⟨#[]⟩ false 0), 6, 56) := by kernel_rfl
end Go.Proofs.YtkcoikelcmpceaaGreatDoor
namespace Go.Proofs.YtkcoikelcmpceaaGreatDoor
open Go.RowKit
/-- Memory but for the blocks of one call of build. -/
structure Keep (s0 : Nat) (W W' : World) : Prop where
  os : W'.os = W.os
  tape : W'.tape = W.tape
  output : W'.output = W.output
  size : W.heap.size ≤ W'.heap.size
  block : ∀ b, b < W.heap.size → b ≠ s0 → b ≠ s0 + 1 → b ≠ s0 + 1 + 1 → W'.heap[b]? = W.heap[b]?
/-- The blocks of one call of build. -/
structure Leaves (s0 : Nat) (W W' : World) : Prop where
  size : W.heap.size ≤ W'.heap.size
  b0 : W'.heap[s0]? = W.heap[s0]?
  b1 : W'.heap[s0 + 1]? = W.heap[s0 + 1]?
  b2 : W'.heap[s0 + 1 + 1]? = W.heap[s0 + 1 + 1]?
theorem Keep.refl (s0 : Nat) (W : World) : Keep s0 W W := ⟨rfl, rfl, rfl, Nat.le_refl _, fun _ _ _ _ _ => rfl⟩
theorem Keep.trans {s0 : Nat} {a b c : World} (h : Keep s0 a b) (k : Keep s0 b c) : Keep s0 a c :=
  ⟨k.os.trans h.os, k.tape.trans h.tape, k.output.trans h.output, Nat.le_trans h.size k.size, fun i hi h0 h1 h2 => (k.block i (Nat.lt_of_lt_of_le hi h.size) h0 h1 h2).trans (h.block i hi h0 h1 h2)⟩
theorem Keep.of_ext {s0 : Nat} {a b : World} (h : Ext a b) : Keep s0 a b := ⟨h.os, h.tape, h.output, h.size, fun _ hi _ _ _ => h.block hi⟩
theorem Keep.of_grown {s0 : Nat} {a b : World} (h : a.grownBy b (some (s0 + 1))) : Keep s0 a b := ⟨h.os, h.tape, h.output, h.size, fun i hi _ h1 _ => h.block i hi (fun e => h1 (by simpa using e))⟩
theorem Keep.of_set {s0 : Nat} (a : World) {p : Addr} (v : Value) (hp : p.block = s0 ∨ p.block = s0 + 1 ∨ p.block = s0 + 1 + 1) : Keep s0 a (a.setCell p v) :=
  ⟨rfl, rfl, rfl, by simp [World.setCell], fun i hi h0 h1 h2 => Below.heap_setCell _ _ _ _ (by omega)⟩
theorem Keep.drew {s0 : Nat} {a b : World} (h : Keep s0 a b) : Keep s0 a b.drew := ⟨h.os, h.tape, h.output, h.size, h.block⟩
/-- What stands in memory behind k calls. -/
structure BSt (s0 R C N k : Nat) (l : List Val) (wr : World) : Prop where
  size : s0 + 3 ≤ wr.heap.size
  b0 : wr.heap[s0]? = some (.cells #[.int .i64 0, .int .i64 0, .slice none 0 0] 33)
  b2 : wr.heap[s0 + 1 + 1]? = some (.cells #[.int .i64 R, .int .i64 C, .slice (some ⟨s0 + 1, 0, none⟩) k N] 33)
  own : wr.ownsRow (s0 + 1) 30 6 (.slice (some ⟨s0 + 1, 0, none⟩) k N) k (vcells l)
def vals (g : Nat → Nat → Val) (C k : Nat) : List Val := (List.range k).map fun t => g (t / C) (t % C)
theorem vals_succ (g : Nat → Nat → Val) (C i j : Nat) (hj : j < C) : vals g C (i * C + j + 1) = vals g C (i * C + j) ++ [g i j] := by
  unfold vals
  rw [List.range_succ, List.map_append]
  have h1 : (i * C + j) / C = i := by rw [Nat.add_comm, Nat.add_mul_div_right _ _ (by omega), Nat.div_eq_of_lt hj]; omega
  have h2 : (i * C + j) % C = j := by rw [Nat.add_comm, Nat.add_mul_mod_self_right, Nat.mod_eq_of_lt hj]
  simp [h1, h2]
theorem vals_length (g : Nat → Nat → Val) (C k : Nat) : (vals g C k).length = k := by simp [vals]
theorem BSt.step {s0 R C N k : Nat} {l : List Val} {x : Val} {wr w1 w3 : World} {ty : TypeId} (h : BSt s0 R C N k l wr) (hl : Leaves s0 wr w1) (hg : (w1.alloc (.cells x.cells.toArray ty)).grownBy w3 (some (s0 + 1)))
    (ho : w3.ownsRow (s0 + 1) 30 6 (.slice (some ⟨s0 + 1, 0, none⟩) (k + 1) N) (k + 1) (vcells l ++ x.cells)) :
    BSt s0 R C N (k + 1) (l ++ [x]) (w3.setCell ⟨s0 + 1 + 1, 2, none⟩ (.slice (some ⟨s0 + 1, 0, none⟩) (k + 1) N)) := by
  have hs1 := hl.size
  have hs := h.size
  have hz : (w1.alloc (.cells x.cells.toArray ty)).heap.size = w1.heap.size + 1 := by simp
  have hs3 := hg.size
  have hb : ∀ b, b < w1.heap.size → b ≠ s0 + 1 → w3.heap[b]? = w1.heap[b]? := fun b hb hn => (hg.block b (by omega) (by simpa using hn)).trans (Below.heap_alloc _ _ _ hb)
  refine ⟨by simp [World.setCell]; omega, ?_, ?_, ?_⟩
  · rw [Below.heap_setCell _ _ _ _ (by simp only; omega), hb s0 (by omega) (by omega), hl.b0, h.b0]
  · have h2 : w3.heap[s0 + 1 + 1]? = some (.cells #[.int .i64 R, .int .i64 C, .slice (some ⟨s0 + 1, 0, none⟩) k N] 33) := by rw [hb (s0 + 1 + 1) (by omega) (by omega), hl.b2, h.b2]
    simp [World.setCell, Array.getElem?_modify, h2]
  · have : vcells (l ++ [x]) = vcells l ++ x.cells := by simp [vcells]
    rw [this]
    exact ho.kept (row := some (s0 + 1 + 1)) ⟨rfl, rfl, rfl, by simp [World.setCell], fun b hb hne => Below.heap_setCell _ _ _ _ (fun e => hne (by simp [e]))⟩ (.inr (by simp [Value.ownBlock]))
end Go.Proofs.YtkcoikelcmpceaaGreatDoor
namespace Go.Proofs.YtkcoikelcmpceaaGreatDoor
open Go.RowKit
theorem wp_append_fits {P : Program} (w : World) {o : Oper} {a : Act} {K : Act → World → Prop} {Q : Exit → Act → World → Prop} (s x : Operand) (t : TypeId)
    (ho : o.op = .call { callee := .builtin .append, args := #[s, x], argTypes := #[t, t] })
    (base : Nat) (e : TypeId) (i : TypeInfo) (size : Nat) (ht : P.underlying t = some (.slice e)) (hi : P.info? e = some i) (hsize : i.size = size)
    (g n cap : Nat) (xs : List Value) (hs : a.eval s = .slice (some ⟨g, 0, none⟩) n cap) (hown : w.ownsRow base e size (.slice (some ⟨g, 0, none⟩) n cap) n xs)
    (ad : Addr) (m c : Nat) (news : List Value) (hx : a.eval x = .slice (some ad) m c) (hl : news.length = m * size) (hnews : ∀ j u, news[j]? = some u → w.cell? (ad.add j) = some u) (h1 : ∀ u ∈ news, u.oneCell' = true)
    (hroom : n + m ≤ cap)
    (h : ∀ w', w'.ownsRow base e size (.slice (some ⟨g, 0, none⟩) (n + m) cap) (n + m) (xs ++ news) → w.grownBy w' (some g) → K (a.put o.dst (.slice (some ⟨g, 0, none⟩) (n + m) cap)) w') : o.wp P a w K Q := by
  obtain ⟨w', hr, h2, h3⟩ := run_append_fits (P := P) w base t o.type e i size ht hi hsize g n cap xs hown ad m c news hl hnews h1 hroom
  unfold Oper.wp execOp
  simp only [ho, resolve, invoke, builtin, Sem.run_bind, Sem.run_pure, Result.andThen_ok, List.map_toArray, List.map_cons, List.map_nil, hs, hx, hr]
  exact h w' h2 h3
theorem BSt.start {w : World} {R C : Nat} (N : Nat) (hN : N ≤ 4096) :
    BSt w.heap.size R C N 0 [] (((w.alloc (Obj.cells #[.int .i64 0, .int .i64 0, .slice none 0 0] 33)).alloc (Obj.cells (madeCells #[.int .i64 0, .int .i64 0, .int .i64 0, .string ⟨#[]⟩, .bool false, .int .i64 0] (N * 6)) 30)).alloc (Obj.cells #[.int .i64 R, .int .i64 C, .slice (some ⟨w.heap.size + 1, 0, none⟩) 0 N] 33)) := by
  refine ⟨by simp, ?_, ?_, ?_⟩
  · rw [Below.heap_alloc _ _ _ (by simp; omega), Below.heap_alloc _ _ _ (by simp), heap_alloc_new]
  · have := heap_alloc_new ((w.alloc (Obj.cells #[.int .i64 0, .int .i64 0, .slice none 0 0] 33)).alloc (Obj.cells (madeCells #[.int .i64 0, .int .i64 0, .int .i64 0, .string ⟨#[]⟩, .bool false, .int .i64 0] (N * 6)) 30)) (Obj.cells #[.int .i64 R, .int .i64 C, .slice (some ⟨w.heap.size + 1, 0, none⟩) 0 N] 33)
    simpa using this
  · refine World.ownsRow.alloc ?_ _
    have := World.ownsRow_made (base := w.heap.size + 1) (e := 30) (size := 6) (w.alloc (Obj.cells #[.int .i64 0, .int .i64 0, .slice none 0 0] 33)) (madeCells #[.int .i64 0, .int .i64 0, .int .i64 0, .string ⟨#[]⟩, .bool false, .int .i64 0] (N * 6)) N (by simp) (by simp only [maxLen]; omega) (by rw [size_madeCells])
    simpa [vcells] using this
theorem BSt.own_later {s0 R C N k : Nat} {l : List Val} {wr w1 : World} (h : BSt s0 R C N k l wr) (hl : Leaves s0 wr w1) (o : Obj) : (w1.alloc o).ownsRow (s0 + 1) 30 6 (.slice (some ⟨s0 + 1, 0, none⟩) k N) k (vcells l) := by
  refine World.ownsRow.alloc ?_ _
  obtain ⟨h1, h2⟩ := h.own
  refine ⟨h1, ?_⟩
  rcases h2 with ⟨h2, _⟩ | ⟨g, cap, cur, hv, hg, hh, r⟩
  · simp at h2
  · simp only [Value.slice.injEq, Option.some.injEq, Addr.mk.injEq, and_true, true_and] at hv
    obtain ⟨rfl, rfl⟩ := hv
    exact .inr ⟨s0 + 1, N, cur, rfl, hg, hl.b1.trans hh, r⟩
theorem Keep.three (s0 : Nat) (a : World) (u v x : Value) : Keep s0 a (((a.setCell ⟨s0, 0, none⟩ u).setCell ⟨s0, 1, none⟩ v).setCell ⟨s0, 2, none⟩ x) :=
  ((Keep.of_set (s0 := s0) a (p := ⟨s0, 0, none⟩) u (.inl rfl)).trans (Keep.of_set (s0 := s0) _ (p := ⟨s0, 1, none⟩) v (.inl rfl))).trans (Keep.of_set (s0 := s0) _ (p := ⟨s0, 2, none⟩) x (.inl rfl))
theorem Rd.set_far {base : Nat} {w : World} {A : Option Addr} {cs : List Value} (h : Rd base w A cs) {p : Addr} (v : Value) (hp : p.block < base) : Rd base (w.setCell p v) A cs :=
  h.blocks fun b hb => Below.heap_setCell _ _ _ _ (by omega)
theorem new_cells (w : World) (cs : List Value) (ty : TypeId) : ∀ j u, cs[j]? = some u → (w.alloc (.cells cs.toArray ty)).cell? ((⟨w.heap.size, 0, none⟩ : Addr).add j) = some u := fun j u hu => by
  rw [Addr.add_mid, World.cell?_alloc_at _ _ _ _ rfl]
  simpa using hu
theorem cells_one (x : Val) : ∀ u ∈ x.cells, u.oneCell' = true := by
  intro u hu
  simp only [Val.cells, List.mem_cons, List.not_mem_nil, or_false] at hu
  rcases hu with rfl | rfl | rfl | rfl | rfl | rfl <;> rfl
set_option maxHeartbeats 1000000 in
theorem build_any (R C : Nat) (cl : FuncId) (capt : Array Value) (g : Nat → Nat → Val) (w : World) (J : Nat → World → Prop) (hR : 1 ≤ R) (hC : 1 ≤ C) (hN : R * C ≤ 4096) (hR' : R ≤ 4096) (hC' : C ≤ 4096)
    (hent : ∀ (args : Array Value) (W : World), (callFunc cl args).run Tryz.prog W = .ok (.enter cl args) W) (hJ0 : J 0 w) (hJ : ∀ k W W', Keep w.heap.size W W' → J k W → J k W')
    (hcall : ∀ i j W, i < R → j < C → J (i * C + j) W → w.heap.size + 3 ≤ W.heap.size →
      Calls Tryz.prog cl (#[.int .i64 i, .int .i64 j] ++ capt) W fun e W' => e = .returned (VV (g i j).kind (g i j).mant (g i j).exp (g i j).text (g i j).truth (g i j).fault) ∧ J (i * C + j + 1) W' ∧ Leaves w.heap.size W W') :
    Calls Tryz.prog 161 #[.int .i64 R, .int .i64 C, .func (.func cl) #[] capt] w fun e w' => ∃ A c, e = .returned (AV R C (.slice A (R * C) c)) ∧ SlV w.heap.size w' A (vals g C (R * C)) ∧ R * C ≤ c ∧ J (R * C) w' := by
  obtain ⟨i0, hi, hz0, hz1, hz2⟩ := info_parts info_val
  have hw : IntKind.i64.wrap ((R : Int) * (C : Int)) = ((R * C : Nat) : Int) := by rw [IntKind.wrap_i64, Int.natCast_mul]; omega
  have hmk : ∀ (N : Nat) (W : World), N ≤ 4096 → (Instr.makeSlice 24 (.int .i64 0) (.int .i64 (N : Int))).run Tryz.prog W = .ok (.slice (some ⟨W.heap.size, 0, none⟩) 0 N) (W.alloc (.cells (madeCells (VV 0 0 0 ⟨#[]⟩ false 0).cells (N * 6)) 30)) := fun N W hN => by
    have := run_make (P := Tryz.prog) W 24 30 i0 _ Tryz.underlying24 hi hz0 .i64 .i64 0 (N : Int) (by omega) (by omega) (by rw [hz2]; omega) (by omega)
    simpa [hz1] using this
  generalize hNN : R * C = N at *
  have hmk' := fun W => hmk N W hN
  clear hmk
  have HN := Lib.hid hNN
  clear hNN
  have HC := Lib.hid hcall
  clear hcall
  have HJ := Lib.hid hJ
  clear hJ
  go_enter Tryz.func161, Tryz.ntmps161
  go_wp2
  have hst0 := BSt.start (w := w) (R := R) (C := C) N hN
  have hj0 : J 0 (((w.alloc (Obj.cells #[.int .i64 0, .int .i64 0, .slice none 0 0] 33)).alloc (Obj.cells (madeCells #[.int .i64 0, .int .i64 0, .int .i64 0, .string ⟨#[]⟩, .bool false, .int .i64 0] (N * 6)) 30)).alloc (Obj.cells #[.int .i64 R, .int .i64 C, .slice (some ⟨w.heap.size + 1, 0, none⟩) 0 N] 33)) := HJ.out 0 w _ (Keep.of_ext (by repeat (first | exact Ext.refl _ | apply Ext.drew | apply Ext.alloc | apply Ext.more_))) hJ0
  go_loopw [18] (fun i wr => ∃ r : Nat, r ≤ R ∧ i = .int .i64 r ∧ BSt w.heap.size R C N (r * C) (vals g C (r * C)) wr ∧ Hid (J (r * C) wr)) (fun i _ => R - (intOf i).toNat)
  case atStart => exact ⟨0, Nat.zero_le _, rfl, by simpa [vals] using hst0, by show J _ _; simpa using hj0⟩
  case round =>
    clear hst0 hj0
    obtain ⟨r, hr, rfl, hst, HJr⟩ := hrel
    by_cases hlt : r < R
    · go_wp2
      obtain ⟨wo, rfl⟩ : ∃ wo : World, wo = wr := ⟨_, rfl⟩
      go_loopw [22] (fun i wr => ∃ j : Nat, j ≤ C ∧ i = .int .i64 j ∧ BSt w.heap.size R C N (r * C + j) (vals g C (r * C + j)) wr ∧ Hid (J (r * C + j) wr)) (fun i _ => C - (intOf i).toNat)
      case atStart => exact ⟨0, Nat.zero_le _, rfl, by simpa using hst, by show J _ _; simpa using HJr.out⟩
      case round =>
        clear hst HJr
        obtain ⟨j, hj, rfl, hst, HJr⟩ := hrel
        by_cases hjt : j < C
        · go_wp2
          have hkN : r * C + j < N := by
            rw [← HN.out]
            have : (r + 1) * C ≤ R * C := Nat.mul_le_mul_right C hlt
            rw [Nat.succ_mul] at this
            omega
          refine wp_plan (S := fun W => W.heap[w.heap.size + 1 + 1]? = some (.cells #[.int .i64 R, .int .i64 C, .slice (some ⟨w.heap.size + 1, 0, none⟩) (r * C + j) N] 33)) [(0, 0), (1, 0), (2, 0), (3, 0), (4, 0), (5, 1), (6, 1), (7, 1), (8, 0), (9, 2)] [9] (by kernel_rfl) (by kernel_rfl) (by kernel_rfl) (fun _ _ d _ _ h => by cases d <;> exact h) hst.b2 ?_
          (refine wpPl_read (v := ?_) rfl ?_ (fun w1 h1 => ?_) ?_; rotate_left 1; rfl; (go_simp; first | done | rfl))
          try simp only [Act.put, zqA, zqB, zqC]
          (refine wpPl_read (v := ?_) rfl ?_ (fun w1 h1 => ?_) ?_; rotate_left 1; rfl; (have h2 := cell_of_row _ _ 2 _ _ _ h1; clear h1; go_simp; first | done | rfl))
          try simp only [Act.put, zqA, zqB, zqC]
          iterate 3 ((refine wpPl_read (v := ?_) rfl ?_ (fun w1 h1 => ?_) ?_; rotate_left 1; rfl; (clear h1; go_simp; first | done | rfl)); try simp only [Act.put, zqA, zqB, zqC])
          (refine wpPl_eff rfl ?_ (fun K hK => ?_); rfl; go_simp)
          refine (HC.out r j _ hlt hjt (HJ.out _ _ _ ((Keep.refl _ _).drew) HJr.out) hst.size).mono ?_
          rintro e w1 ⟨rfl, hJ1, hL1⟩
          have hL : Leaves w.heap.size wr w1 := ⟨hL1.size, hL1.b0, hL1.b1, hL1.b2⟩
          refine hK _ _ (hL.b2.trans hst.b2) ?_
          try simp only [Act.put, zqA, zqB, zqC]
          (refine wpPl_eff rfl ?_ (fun K hK => ?_); rfl; go_simp)
          refine hK _ _ ((Below.heap_alloc _ _ _ (by have := hL.size; have := hst.size; omega)).trans (hL.b2.trans hst.b2)) ?_
          try simp only [Act.put, zqA, zqB, zqC]
          (refine wpPl_eff rfl ?_ (fun K hK => ?_); rfl)
          refine wp_append_fits _ _ _ _ rfl (w.heap.size + 1) 30 i0 6 Tryz.underlying24 hi hz1 (w.heap.size + 1) (r * C + j) N (vcells (vals g C (r * C + j))) rfl (hst.own_later hL _) ⟨w1.heap.size, 0, none⟩ 1 1 (g r j).cells rfl rfl (new_cells _ _ _) (cells_one _) (by omega) ?_
          intro w3 ho3 hg3
          refine hK _ _ ((hg3.block _ (by have := hL.size; have := hst.size; simp; omega) (by simp)).trans ((Below.heap_alloc _ _ _ (by have := hL.size; have := hst.size; omega)).trans (hL.b2.trans hst.b2))) ?_
          try simp only [Act.put, zqA, zqB, zqC]
          (refine wpPl_read (v := ?_) rfl ?_ (fun w1 h1 => ?_) ?_; rotate_left 1; rfl; (clear h1; go_simp; first | done | rfl))
          try simp only [Act.put, zqA, zqB, zqC]
          have hb2 : w3.heap[w.heap.size + 1 + 1]? = some (.cells #[.int .i64 R, .int .i64 C, .slice (some ⟨w.heap.size + 1, 0, none⟩) (r * C + j) N] 33) := (hg3.block _ (by have := hL.size; have := hst.size; simp; omega) (by simp)).trans ((Below.heap_alloc _ _ _ (by have := hL.size; have := hst.size; omega)).trans (hL.b2.trans hst.b2))
          have c2 := cell_of_row _ _ 2 _ _ _ hb2
          have f2 := frozen_of_row _ _ 2 _ _ hb2
          have hst2 : BSt w.heap.size R C N (r * C + (j + 1)) (vals g C (r * C + (j + 1))) (w3.setCell ⟨w.heap.size + 1 + 1, 2, none⟩ (.slice (some ⟨w.heap.size + 1, 0, none⟩) (r * C + j + 1) N)) := by
            rw [show r * C + (j + 1) = r * C + j + 1 by omega, vals_succ g C r j hjt]
            exact hst.step hL hg3 ho3
          have hJ3 : Hid (J (r * C + (j + 1)) (w3.setCell ⟨w.heap.size + 1 + 1, 2, none⟩ (.slice (some ⟨w.heap.size + 1, 0, none⟩) (r * C + j + 1) N))) :=
            HJ.out _ _ _ (((Keep.of_ext ((Ext.refl w1).alloc _)).trans (Keep.of_grown hg3)).trans (Keep.of_set w3 _ (.inr (.inr rfl)))) hJ1
          clear hb2 ho3 hg3 hst
          (refine wpPl_tail rfl ?_ (fun K hK => ?_); rfl; go_simp)
          refine hK _ _ ?_
          try simp only [Act.put, zqA, zqB, zqC]
          refine wpPl_nil ?_
          go_wp2
          exact ⟨⟨j + 1, by omega, by go_num, hst2, hJ3⟩, by simp [intOf]; omega⟩
        · go_wp2
          obtain rfl : j = C := by omega
          refine ⟨⟨r + 1, by omega, by go_num, by rw [Nat.succ_mul]; exact hst, by rw [Nat.succ_mul]; exact HJr⟩, by simp [intOf]; omega⟩
    · obtain rfl : r = R := by omega
      have e := HN.out
      rw [e] at hst HJr
      clear e
      have c20 := cell_of_row _ _ 0 _ _ _ hst.b2
      have c21 := cell_of_row _ _ 1 _ _ _ hst.b2
      have c22 := cell_of_row _ _ 2 _ _ _ hst.b2
      have c00 := cell_of_row _ _ 0 _ _ _ hst.b0
      have c01 := cell_of_row _ _ 1 _ _ _ hst.b0
      have c02 := cell_of_row _ _ 2 _ _ _ hst.b0
      have f00 := frozen_of_row _ _ 0 _ _ hst.b0
      have f01 := frozen_of_row _ _ 1 _ _ hst.b0
      have f02 := frozen_of_row _ _ 2 _ _ hst.b0
      go_wp2
      refine bodyPost_ret (results_cell_row (by rfl) _ _ w.heap.size 33 #[.int .i64 r, .int .i64 C, .slice (some ⟨w.heap.size + 1, 0, none⟩) N N] (0, 0) _ (by rfl) ?_ Tryz.underlying33 (by rfl) (by kernel_rfl)) rfl ⟨some ⟨w.heap.size + 1, 0, none⟩, N, rfl, ?_, Nat.le_refl _, HJ.out _ _ _ (Keep.three _ _ _ _ _) HJr.out⟩
      · simp [World.setCell, Array.getElem?_modify, hst.b0]
      · obtain ⟨A, c, hA, hrd, _⟩ := Rd.of_own hst.own
        simp only [Value.slice.injEq, true_and] at hA
        obtain ⟨rfl, rfl⟩ := hA
        exact Rd.mono (((hrd.set_far _ (by simp)).set_far _ (by simp)).set_far _ (by simp)) (by omega)
end Go.Proofs.YtkcoikelcmpceaaGreatDoor
namespace Go.Proofs.YtkcoikelcmpceaaGreatDoor
open Go.RowKit
/-- The three cells of an array's variable. -/
abbrev ABox (pb : Nat) (r c : Int) (A : Option Addr) (n cap : Nat) (W : World) : Prop :=
  pb < W.heap.size ∧ W.cell? ⟨pb, 0, none⟩ = some (.int .i64 r) ∧ W.cell? ⟨pb, 1, none⟩ = some (.int .i64 c) ∧ W.cell? ⟨pb, 2, none⟩ = some (.slice A n cap)
def getV (l : List Val) (k : Nat) : Val := (l[k]?).getD Val.zero
theorem ArrIn.get {w : World} {A : Option Addr} {n cap : Nat} {l : List Val} (h : ArrIn w A n cap l) {k : Nat} (hk : k < n) : ∃ b off, A = some ⟨b, off, none⟩ ∧ ValAt w b (off + k * 6) (getV l k) ∧ (getV l k).ok := by
  obtain ⟨x, b, off, hx, ho, hA, hv⟩ := h.at hk
  have : getV l k = x := by simp [getV, hx]
  rw [this]
  exact ⟨b, off, hA, hv, ho⟩
theorem cell_prod {C i j : Nat} (R : Nat) (hi : i < R) (hj : j < C) (hN : R * C ≤ 4096) : i * C + j < R * C ∧ i * C ≤ 4096 := by
  have : (i + 1) * C ≤ R * C := Nat.mul_le_mul_right C hi
  rw [Nat.succ_mul] at this
  omega
theorem right_parts {r c : Int} {l : List Val} (h : rightA r c l = true) : ∃ R C : Nat, r = R ∧ c = C ∧ 1 ≤ R ∧ 1 ≤ C ∧ R * C ≤ 4096 ∧ l.length = R * C ∧ (∀ x ∈ l, valRight x = true) := by
  simp only [rightA, Bool.and_eq_true, decide_eq_true_eq, List.all_eq_true] at h
  obtain ⟨⟨hf, hn⟩, ha⟩ := h
  obtain ⟨f1, f2, f3, f4, f5, f6⟩ := fits_mul hf
  obtain ⟨R, rfl⟩ := Int.eq_ofNat_of_zero_le (show 0 ≤ r by omega)
  obtain ⟨C, rfl⟩ := Int.eq_ofNat_of_zero_le (show 0 ≤ c by omega)
  rw [← Int.natCast_mul] at hn f6
  exact ⟨R, C, rfl, rfl, by omega, by omega, by omega, by omega, ha⟩
def hasB (r c i j : Int) : Bool := decide (0 ≤ i) && decide (i < r) && decide (0 ≤ j) && decide (j < c)
set_option maxHeartbeats 400000 in
theorem has_any (r c i j : Int) (s : Value) (w : World) (_hs : s.oneCell' = true) :
    Calls Tryz.prog 191 #[AV r c s, .int .i64 i, .int .i64 j] w fun e w' => e = .returned (.bool (hasB r c i j)) ∧ Ext w w' := by
  go_enter Tryz.func191, Tryz.ntmps191
  go_upto_region 1 with (fail)
  refine wp_region_lit ?_
  iterate 3 ((refine wpL_read (v := ?_) rfl ?_ ?_; rotate_left 1; (go_simp; first | done | rfl)); try simp only [Act.put, zqA, zqB, zqC])
  iterate 4 ((refine wpL_gread (v := ?_) (c := ?_) rfl rfl rfl ?_ (fun hc => ?_) ?_; rotate_left 2; (first | exact gc_t _ | exact gc_f _ | exact gc_gt _ _ | exact gc_gf _ _); ((try simp only [gv_of hc]); (try (have hc1 := and_l hc; (try simp only [gv_of hc1]); (try (have hc2 := and_l hc1; (try simp only [gv_of hc2]))))); go_simp; first | done | rfl)); try simp only [Act.put, zqA, zqB, zqC])
  first | (refine wpL_pick_and rfl rfl rfl rfl rfl ?_) | (refine wpL_pick_or rfl rfl rfl rfl rfl ?_)
  try simp only [Act.put, zqA, zqB, zqC]
  (refine wpL_read (v := ?_) rfl ?_ ?_; rotate_left 1; (go_simp; first | done | rfl))
  try simp only [Act.put, zqA, zqB, zqC]
  iterate 2 ((refine wpL_gread (v := ?_) (c := ?_) rfl rfl rfl ?_ (fun hc => ?_) ?_; rotate_left 2; (first | exact gc_t _ | exact gc_f _ | exact gc_gt _ _ | exact gc_gf _ _); ((try simp only [gv_of hc]); (try (have hc1 := and_l hc; (try simp only [gv_of hc1]); (try (have hc2 := and_l hc1; (try simp only [gv_of hc2]))))); go_simp; first | done | rfl)); try simp only [Act.put, zqA, zqB, zqC])
  first | (refine wpL_pick_and rfl rfl rfl rfl rfl ?_) | (refine wpL_pick_or rfl rfl rfl rfl rfl ?_)
  try simp only [Act.put, zqA, zqB, zqC]
  (refine wpL_read (v := ?_) rfl ?_ ?_; rotate_left 1; (go_simp; first | done | rfl))
  try simp only [Act.put, zqA, zqB, zqC]
  iterate 4 ((refine wpL_gread (v := ?_) (c := ?_) rfl rfl rfl ?_ (fun hc => ?_) ?_; rotate_left 2; (first | exact gc_t _ | exact gc_f _ | exact gc_gt _ _ | exact gc_gf _ _); ((try simp only [gv_of hc]); (try (have hc1 := and_l hc; (try simp only [gv_of hc1]); (try (have hc2 := and_l hc1; (try simp only [gv_of hc2]))))); go_simp; first | done | rfl)); try simp only [Act.put, zqA, zqB, zqC])
  first | (refine wpL_pick_and rfl rfl rfl rfl rfl ?_) | (refine wpL_pick_or rfl rfl rfl rfl rfl ?_)
  try simp only [Act.put, zqA, zqB, zqC]
  (refine wpL_read (v := ?_) rfl ?_ ?_; rotate_left 1; (go_simp; first | done | rfl))
  try simp only [Act.put, zqA, zqB, zqC]
  refine wpList_nil ?_
  try go_simp
  go_wp2
  go_ret
  exact ⟨rfl, by repeat (first | exact Ext.refl _ | apply Ext.drew | apply Ext.alloc | apply Ext.more_)⟩
end Go.Proofs.YtkcoikelcmpceaaGreatDoor
namespace Go.Proofs.YtkcoikelcmpceaaGreatDoor
open Go.RowKit
theorem bad9_ok : bad9.ok := ⟨⟨by simp [bad9], by simp [bad9]⟩, ⟨by simp [bad9], by simp [bad9]⟩, ⟨by simp [bad9], by simp [bad9]⟩, by simp [bad9, ByteArray.size], ⟨by simp [bad9], by simp [bad9]⟩⟩
theorem oneV_ok {x : Val} (h : x.ok) : ∀ y ∈ [oneV x], y.ok := by
  intro y hy
  obtain rfl : y = oneV x := by simpa using hy
  unfold oneV; split
  · exact h
  · exact bad9_ok
end Go.Proofs.YtkcoikelcmpceaaGreatDoor
namespace Go.Proofs.YtkcoikelcmpceaaGreatDoor
open Go.RowKit
theorem right_bd {R C : Nat} {l : List Val} (h : rightA R C l = true) : 1 ≤ R ∧ 1 ≤ C ∧ R * C ≤ 4096 ∧ l.length = R * C ∧ R ≤ 4096 ∧ C ≤ 4096 := by
  obtain ⟨R', C', e1, e2, r1, r2, r3, r4, _⟩ := right_parts h
  obtain rfl : R = R' := by omega
  obtain rfl : C = C' := by omega
  have h1 : R * 1 ≤ R * C := Nat.mul_le_mul_left R r2
  have h2 : 1 * C ≤ R * C := Nat.mul_le_mul_right C r1
  exact ⟨r1, r2, r3, r4, by omega, by omega⟩
theorem fits_nat {a b : Nat} : fitsB a b = true ↔ 1 ≤ a ∧ 1 ≤ b ∧ a * b ≤ 4096 := by
  constructor
  · intro h
    obtain ⟨f1, f2, f3, f4, f5, f6⟩ := fits_mul h
    rw [← Int.natCast_mul] at f6
    exact ⟨by omega, by omega, by omega⟩
  · intro ⟨h1, h2, h3⟩
    have ha : a * 1 ≤ a * b := Nat.mul_le_mul_left a h2
    have hq : b ≤ 4096 / a := (Nat.le_div_iff_mul_le (by omega)).2 (by rw [Nat.mul_comm]; exact h3)
    simp only [fitsB, Bool.and_eq_true, decide_eq_true_eq]
    refine ⟨⟨⟨by omega, by omega⟩, by omega⟩, ?_⟩
    have : ((b : Nat) : Int) ≤ ((4096 / a : Nat) : Int) := by omega
    simpa using this
end Go.Proofs.YtkcoikelcmpceaaGreatDoor
namespace Go.Proofs.YtkcoikelcmpceaaGreatDoor
open Go.RowKit
theorem badV_ok (f : Int) (h : I64 f) : (badV f).ok := ⟨⟨by simp [badV], by simp [badV]⟩, ⟨by simp [badV], by simp [badV]⟩, ⟨by simp [badV], by simp [badV]⟩, by simp [badV, ByteArray.size], h⟩
theorem getV_mem {l : List Val} {k : Nat} (h : k < l.length) : getV l k ∈ l := by
  simp [getV, List.getElem?_eq_getElem h]
theorem vals_mem {g : Nat → Nat → Val} {C k : Nat} {y : Val} (h : y ∈ vals g C k) : ∃ i j, y = g i j := by
  unfold vals at h
  obtain ⟨t, _, rfl⟩ := List.mem_map.1 h
  exact ⟨_, _, rfl⟩
/-- An array as data. -/
structure NA where
  R : Nat
  C : Nat
  l : List Val
def NA.right (a : NA) : Prop := rightA a.R a.C a.l = true
def NA.ok (a : NA) : Prop := ∀ x ∈ a.l, x.ok
theorem rightA_nat {R C : Nat} {l : List Val} : rightA R C l = true ↔ 1 ≤ R ∧ 1 ≤ C ∧ R * C ≤ 4096 ∧ l.length = R * C ∧ ∀ x ∈ l, valRight x = true := by
  simp only [rightA, Bool.and_eq_true, fits_nat, decide_eq_true_eq, List.all_eq_true]
  constructor
  · rintro ⟨⟨⟨h1, h2, h3⟩, h4⟩, h5⟩
    refine ⟨h1, h2, h3, ?_, h5⟩
    have : ((l.length : Nat) : Int) = ((R * C : Nat) : Int) := by rw [h4]; simp
    omega
  · rintro ⟨h1, h2, h3, h4, h5⟩
    exact ⟨⟨⟨h1, h2, h3⟩, by rw [h4]; simp⟩, h5⟩
theorem I64_6 : I64 6 := ⟨by omega, by omega⟩
theorem hasB_iff {R C : Nat} {i j : Int} : hasB R C i j = true ↔ 0 ≤ i ∧ i < R ∧ 0 ≤ j ∧ j < C := by
  simp only [hasB, Bool.and_eq_true, decide_eq_true_eq, and_assoc]
theorem hasB_no {R C : Nat} {i j : Int} (h : ¬ (0 ≤ i ∧ i < R ∧ 0 ≤ j ∧ j < C)) : hasB R C i j = false := by
  cases hh : hasB R C i j with
  | false => rfl
  | true => exact absurd (hasB_iff.1 hh) h
theorem fits_no {a b : Nat} (_h1 : 1 ≤ a) (_h2 : 1 ≤ b) (h : ¬ a * b ≤ 4096) : fitsB a b = false := by
  cases hh : fitsB a b with
  | false => rfl
  | true => exact absurd (fits_nat.1 hh).2.2 h
end Go.Proofs.YtkcoikelcmpceaaGreatDoor
namespace Go.Proofs.YtkcoikelcmpceaaGreatDoor
open Go.RowKit NM
/-- An argument: an array that may be, and where its values lie. -/
structure Ar where
  x : NA
  A : Option Addr
  n : Nat
  cap : Nat
def Ar.cells (a : Ar) : List Value := [.int .i64 a.x.R, .int .i64 a.x.C, .slice a.A a.n a.cap]
def acells (xs : List Ar) : List Value := xs.flatMap Ar.cells
/-- The three cells of an array anywhere. -/
def ArAt (w : World) (b o : Nat) (a : Ar) : Prop :=
  w.cell? ⟨b, o, none⟩ = some (.int .i64 a.x.R) ∧ w.cell? ⟨b, o + 1, none⟩ = some (.int .i64 a.x.C) ∧ w.cell? ⟨b, o + 2, none⟩ = some (.slice a.A a.n a.cap)
theorem acells_at : ∀ (xs : List Ar) (i : Nat) (a : Ar), xs[i]? = some a → ∀ j, j < 3 → (acells xs)[i * 3 + j]? = a.cells[j]?
  | [], i, x, h, j, hj => by simp at h
  | y :: l, 0, x, h, j, hj => by
    obtain rfl : y = x := by simpa using h
    rw [acells, List.flatMap_cons, List.getElem?_append_left (by simp [Ar.cells]; omega)]
    simp
  | y :: l, i + 1, x, h, j, hj => by
    rw [acells, List.flatMap_cons, List.getElem?_append_right (by simp [Ar.cells]; omega)]
    rw [show (i + 1) * 3 + j - y.cells.length = i * 3 + j by simp [Ar.cells]; omega]
    exact acells_at l i x (by simpa using h) j hj
/-- An array whose values lie, and may be. -/
structure ArOk (w : World) (a : Ar) : Prop where
  arr : ArrIn w a.A a.n a.cap a.x.l
  right : a.x.right
theorem ArOk.ext {w w' : World} {a : Ar} (h : ArOk w a) (hx : Ext w w') : ArOk w' a := ⟨h.arr.ext hx, h.right⟩
structure ArgsIn (w : World) (A : Option Addr) (n cap : Nat) (xs : List Ar) : Prop where
  rd : Rd 0 w A (acells xs)
  len : xs.length = n
  cap : n ≤ cap
  small : n ≤ 9223372036854775807
  all : ∀ a ∈ xs, ArOk w a
theorem ArgsIn.ext {w w' : World} {A : Option Addr} {n cap : Nat} {xs : List Ar} (h : ArgsIn w A n cap xs) (hx : Ext w w') : ArgsIn w' A n cap xs :=
  ⟨h.rd.ext hx, h.len, h.cap, h.small, fun a ha => (h.all a ha).ext hx⟩
theorem ArgsIn.get {w : World} {A : Option Addr} {n cap : Nat} {xs : List Ar} (h : ArgsIn w A n cap xs) {k : Nat} {a : Ar} (hk : xs[k]? = some a) :
    ∃ b off, A = some ⟨b, off, none⟩ ∧ ArAt w b (off + k * 3) a ∧ ArOk w a := by
  have hc : ∀ j, j < 3 → (acells xs)[k * 3 + j]? = a.cells[j]? := acells_at xs k a hk
  obtain ⟨b, off, rfl, _, h0⟩ := h.rd (k * 3 + 0) (.int .i64 a.x.R) (by rw [hc 0 (by omega)]; rfl)
  refine ⟨b, off, rfl, ?_, h.all a (List.mem_of_getElem? hk)⟩
  have hg : ∀ j u, j < 3 → a.cells[j]? = some u → w.cell? ⟨b, off + k * 3 + j, none⟩ = some u := fun j u hj hu => by
    obtain ⟨b', off', he, _, h1⟩ := h.rd (k * 3 + j) u (by rw [hc j hj]; exact hu)
    simp only [Option.some.injEq, Addr.mk.injEq, and_true] at he
    obtain ⟨rfl, rfl⟩ := he
    rw [← h1]; congr 2; omega
  exact ⟨hg 0 _ (by omega) rfl, hg 1 _ (by omega) rfl, hg 2 _ (by omega) rfl⟩
theorem ArgsIn.at {w : World} {A : Option Addr} {n cap : Nat} {xs : List Ar} (h : ArgsIn w A n cap xs) {k : Nat} (hk : k < n) :
    ∃ a b off, xs[k]? = some a ∧ A = some ⟨b, off, none⟩ ∧ ArAt w b (off + k * 3) a ∧ ArOk w a := by
  have hl : k < xs.length := by rw [h.len]; exact hk
  obtain ⟨b, off, e, h1, h2⟩ := h.get (List.getElem?_eq_getElem hl)
  exact ⟨_, b, off, List.getElem?_eq_getElem hl, e, h1, h2⟩
/-- What lies in one block from its start on. -/
theorem Rd.of_row {w : World} {b : Nat} {cs : List Value} {t : TypeId} (h : w.heap[b]? = some (.cells cs.toArray t)) (base : Nat) (hb : base ≤ b) : Rd base w (some ⟨b, 0, none⟩) cs := fun j u hu => by
  refine ⟨b, 0, rfl, hb, ?_⟩
  simp only [World.cell?, h, Nat.zero_add]
  simpa using hu
/-- What a function of arrays hands back. -/
def ResA (w : World) (x : NA) (e : Ending) (w' : World) : Prop :=
  ∃ D m cc, e = .returned (AV x.R x.C (.slice D m cc)) ∧ ArrN w.heap.size w' D m cc x.l ∧ Ext w w'
def oneA (v : Val) : NA := ⟨1, 1, [v]⟩
def aloneO (f : Int) : NA := oneA (bad_ f)
end Go.Proofs.YtkcoikelcmpceaaGreatDoor
namespace Go.Proofs.YtkcoikelcmpceaaGreatDoor
open Go.RowKit NM
theorem ArrO.res {w w' : World} {e : Ending} {x : NA} (h : ArrO w.heap.size w' e x.R x.C x.l) (hl : x.l.length ≤ 9223372036854775807) (ho : x.ok) (hx : Ext w w') : ResA w x e w' := by
  obtain ⟨A, cap, rfl, h1, h2⟩ := h
  exact ⟨A, _, cap, rfl, ⟨h1, rfl, h2, hl, ho⟩, hx⟩
theorem one_res (v : Val) (w : World) (hv : v.ok) (hr : v.right) :
    Calls Tryz.prog 64 #[VV v.kind v.mant v.exp v.text v.truth v.fault] w fun e w' => ResA w (oneA v) e w' :=
  (one_right v.kind v.mant v.exp v.fault v.text v.truth w hv.2.1 hv.2.2.2.1 hr).mono fun e w' ⟨h1, h2⟩ => ArrO.res (x := oneA v) h1 (by simp [oneA]) (fun y hy => by rw [show y = v by simpa [oneA] using hy]; exact hv) h2
theorem ok_bad (f : Int) : (bad_ f).ok := badV_ok _ (by have := badF_bd f; unfold I64; omega)
end Go.Proofs.YtkcoikelcmpceaaGreatDoor
namespace Go.Proofs.YtkcoikelcmpceaaGreatDoor
open Go.RowKit NM
theorem upB_yes {b : UInt8} (h1 : 97 ≤ b.toNat) (h2 : b.toNat ≤ 122) : (upB b).toNat = b.toNat - 32 := by
  unfold upB
  rw [if_pos ⟨UInt8.le_iff_toNat_le.2 h1, UInt8.le_iff_toNat_le.2 h2⟩, UInt8.toNat_sub_of_le]
  · rfl
  · rw [UInt8.le_iff_toNat_le]; show 32 ≤ b.toNat; omega
theorem upB_no {b : UInt8} (h : b.toNat < 97 ∨ 122 < b.toNat) : upB b = b := by
  unfold upB
  rw [if_neg]
  rintro ⟨h1, h2⟩
  have h1 : 97 ≤ b.toNat := UInt8.le_iff_toNat_le.1 h1
  have h2 : b.toNat ≤ 122 := UInt8.le_iff_toNat_le.1 h2
  omega
theorem bytes_ext_ (w : World) (e : TypeId) (s : ByteArray) : Ext w (Lib.bytesWorld w e s) :=
  ⟨rfl, rfl, rfl, by rw [Lib.bytesWorld_size]; omega, fun b hb => Lib.bytesWorld_at_old w e s b hb⟩
theorem tl_get (s : ByteArray) (j : Nat) (h : j < s.size) : (tl s)[j]? = some (s[j]'h) := by
  unfold tl
  rw [List.getElem?_eq_getElem (by exact h)]
  rfl
theorem fold_get (s : ByteArray) (j : Nat) (h : j < s.size) : (foldB s)[j]'(by rw [foldB_size]; exact h) = upB (s[j]'h) := by
  have h1 := tl_get (foldB s) j (by rw [foldB_size]; exact h)
  rw [tl_fold, List.getElem?_map, tl_get s j h] at h1
  exact (Option.some.inj h1).symm
/-- What the loop of folded keeps. -/
structure FS (w : World) (s : ByteArray) (k : Nat) (wr : World) : Prop where
  ext : Ext w wr
  cell : ∀ j (h : j < s.size), wr.cell? ⟨w.heap.size, j, none⟩ = some (.int .u8 ((if j < k then upB (s[j]'h) else s[j]'h).toNat : Int))
  fz : ∀ j, j < s.size → wr.frozen? ⟨w.heap.size, j, none⟩ = false
theorem FS.start (w : World) (s : ByteArray) : FS w s 0 (Lib.bytesWorld w 5 s) := by
  refine ⟨bytes_ext_ _ _ _, fun j h => ?_, fun j h => ?_⟩
  · rw [Lib.bytesWorld_cell _ _ _ _ h]
    have h1 := tl_get s j h
    unfold tl at h1
    rw [List.getD_eq_getElem?_getD, h1]
    rfl
  · have hc : s.size ≤ (Lib.bytesCells w 5 s).size := by
      unfold Lib.bytesCells
      rw [Array.size_append, Array.size_map]
      exact Nat.le_add_right _ _
    unfold World.frozen?
    rw [Lib.bytesWorld_at_new]
    simp
    omega
theorem FS.lt {w : World} {s : ByteArray} {k : Nat} {wr : World} (h : FS w s k wr) (h0 : 0 < s.size) : w.heap.size < wr.heap.size := lt_of_cell (h.cell 0 h0)
theorem FS.up {w : World} {s : ByteArray} {k : Nat} {wr : World} (h : FS w s k wr) (hk : k < s.size) (v : Int) (hv : v = ((upB (s[k]'hk)).toNat : Int)) : FS w s (k + 1) (wr.setCell ⟨w.heap.size, k, none⟩ (.int .u8 v)) := by
  subst hv
  refine ⟨h.ext.set _ (Nat.le_refl _), fun j hj => ?_, fun j hj => by rw [World.frozen?_setCell]; exact h.fz j hj⟩
  by_cases hjk : j = k
  · subst hjk
    rw [World.cell?_setCell_same _ _ _ (h.cell j hj), if_pos (by omega)]
  · rw [World.cell?_setCell_other _ _ _ _ (by intro e; injection e with _ e; omega), h.cell j hj]
    congr 4
    by_cases h1 : j < k
    · rw [if_pos h1, if_pos (by omega)]
    · rw [if_neg h1, if_neg (by omega)]
theorem FS.keep {w : World} {s : ByteArray} {k : Nat} {wr : World} (h : FS w s k wr) (hk : k < s.size) (hv : upB (s[k]'hk) = s[k]'hk) : FS w s (k + 1) wr := by
  refine ⟨h.ext, fun j hj => ?_, h.fz⟩
  rw [h.cell j hj]
  by_cases hjk : j = k
  · subst hjk
    rw [if_neg (by omega), if_pos (by omega), hv]
  · congr 4
    by_cases h1 : j < k
    · rw [if_pos h1, if_pos (by omega)]
    · rw [if_neg h1, if_neg (by omega)]
theorem FS.done {w : World} {s : ByteArray} {wr : World} (h : FS w s s.size wr) : Lib.Bytes wr w.heap.size 0 (foldB s) := by
  intro j hj
  have hj' : j < s.size := by rw [foldB_size] at hj; exact hj
  rw [Nat.zero_add, h.cell j hj', if_pos hj', fold_get s j hj']
set_option maxHeartbeats 1000000 in
theorem folded_any (s : ByteArray) (w : World) (h0 : 0 < s.size) (hs : s.size ≤ 9223372036854775807) :
    Calls Tryz.prog 210 #[.string s] w fun e w' => e = .returned (.string (foldB s)) ∧ Ext w w' := by
  have hc1 := Lib.run_convert_string_bytes (P := Tryz.prog) w 9 135 5 s Tryz.underlying9 Tryz.underlying135 Tryz.underlying5
  have hst := FS.start w s
  generalize Lib.bytesWorld w 5 s = W at *
  generalize grownCap w s.size 0 5 = cap at *
  have HST := Lib.hid hst
  clear hst
  go_enter Tryz.func210, Tryz.ntmps210
  go_wp2_with fail
  go_loopw [10] (fun v10 wr => ∃ k : Nat, k ≤ s.size ∧ v10 = .int .i64 (k : Int) ∧ Hid (FS w s k wr)) (fun v10 _ => s.size - (intOf v10).toNat)
  case atStart => exact ⟨0, Nat.zero_le _, rfl, HST⟩
  case round =>
    obtain ⟨k, hk, rfl, H⟩ := hrel
    by_cases hks : k < s.size
    · have hc := H.out.cell k hks
      rw [if_neg (Nat.lt_irrefl k)] at hc
      have hf := H.out.fz k hks
      have hl := H.out.lt h0
      have hb := (s[k]'hks).toNat_lt
      by_cases h97 : 97 ≤ (s[k]'hks).toNat
      · by_cases h122 : (s[k]'hks).toNat ≤ 122
        · have HU := Lib.hid (H.out.up hks (((s[k]'hks).toNat : Int) - 97 + 65) (by rw [upB_yes h97 h122]; omega))
          have g1 : (97 : Int) ≤ ((s[k]'hks).toNat : Int) := by omega
          have g2 : ((s[k]'hks).toNat : Int) ≤ 122 := by omega
          generalize (s[k]'hks).toNat = c at *
          have w1 : IntKind.u8.wrap ((c : Int) - 97) = (c : Int) - 97 := by rw [IntKind.wrap_u8]; omega
          have w2 : IntKind.u8.wrap ((c : Int) - 97 + 65) = (c : Int) - 97 + 65 := by rw [IntKind.wrap_u8]; omega
          clear h97 h122
          go_wp2_with fail
          exact ⟨⟨k + 1, by omega, by go_num, HU⟩, by simp [intOf]; omega⟩
        · have HU := Lib.hid (H.out.keep hks (upB_no (by omega)))
          have g1 : (97 : Int) ≤ ((s[k]'hks).toNat : Int) := by omega
          have g2 : ¬ ((s[k]'hks).toNat : Int) ≤ 122 := by omega
          generalize (s[k]'hks).toNat = c at *
          clear h97 h122
          go_wp2_with fail
          exact ⟨⟨k + 1, by omega, by go_num, HU⟩, by simp [intOf]; omega⟩
      · have HU := Lib.hid (H.out.keep hks (upB_no (by omega)))
        have g1 : ¬ (97 : Int) ≤ ((s[k]'hks).toNat : Int) := by omega
        generalize (s[k]'hks).toNat = c at *
        clear h97
        go_wp2_with fail
        exact ⟨⟨k + 1, by omega, by go_num, HU⟩, by simp [intOf]; omega⟩
    · obtain rfl : k = s.size := by omega
      have hcv := Lib.run_convert_whole (P := Tryz.prog) wr 135 5 9 Tryz.underlying135 Tryz.underlying5 Tryz.underlying9 w.heap.size 0 (foldB s) H.out.done cap
      rw [foldB_size] at hcv
      go_wp2_with fail
      exact bodyPost_ret (v := .string (foldB s)) (by simp [results, Tryz.results210, go_sem]) rfl ⟨rfl, H.out.ext⟩
set_option maxHeartbeats 1000000 in
theorem fold_any (s : ByteArray) (w : World) (hs : s.size ≤ 9223372036854775807) :
    Calls Tryz.prog 187 #[.string s] w fun e w' => e = .returned (.string (foldB s)) ∧ Ext w w' := by
  go_enter Tryz.func187, Tryz.ntmps187
  go_wp2_with fail
  go_loop [6] (fun v6 => ∃ k : Nat, k ≤ s.size ∧ v6 = .int .i64 (k : Int) ∧ Hid (∀ j (h : j < s.size), j < k → upB (s[j]'h) = s[j]'h)) (fun v6 => s.size - (intOf v6).toNat)
  case atStart => exact ⟨0, Nat.zero_le _, rfl, fun j _ h => by omega⟩
  case round =>
    obtain ⟨k, hk, rfl, H⟩ := hrel
    have hstep : ∀ hks : k < s.size, upB (s[k]'hks) = s[k]'hks → Hid (∀ j (h : j < s.size), j < k + 1 → upB (s[j]'h) = s[j]'h) := by
      intro hks hu j hj hjk
      by_cases h : j = k
      · subst h; exact hu
      · exact H.out j hj (by omega)
    by_cases hks : k < s.size
    · have HS := fun hu => hstep hks hu
      by_cases h97 : 97 ≤ (s[k]'hks).toNat
      · have g1 : (97 : Int) ≤ ((s[k]'hks).toNat : Int) := by omega
        by_cases h122 : (s[k]'hks).toNat ≤ 122
        · have g2 : ((s[k]'hks).toNat : Int) ≤ 122 := by omega
          have hfd := folded_any s w (by omega) hs
          clear HS hstep h97 h122
          go_wp2_with (go_at_call 210; (with_reducible refine hfd.mono ?_); rintro e w' ⟨rfl, hb⟩)
          exact bodyPost_ret (v := .string (foldB s)) (by simp [results, Tryz.results187, go_sem]) rfl ⟨rfl, hb⟩
        · have g2 : ¬ ((s[k]'hks).toNat : Int) ≤ 122 := by omega
          have HU := HS (upB_no (by omega))
          clear HS hstep h97 h122
          go_wp2_with fail
          exact ⟨⟨k + 1, by omega, by go_num, HU⟩, by simp [intOf]; omega⟩
      · have g1 : ¬ (97 : Int) ≤ ((s[k]'hks).toNat : Int) := by omega
        have HU := HS (upB_no (by omega))
        clear HS hstep h97
        go_wp2_with fail
        exact ⟨⟨k + 1, by omega, by go_num, HU⟩, by simp [intOf]; omega⟩
    · have hfs : Hid (foldB s = s) := by
        show _ = _
        have h1 : tl (foldB s) = tl s := by
          rw [tl_fold]
          conv => rhs; rw [← List.map_id (tl s)]
          apply List.map_congr_left
          intro b hb
          obtain ⟨j, hj, rfl⟩ := List.mem_iff_getElem.1 hb
          exact H.out j hj (by have : j < s.size := hj; omega)
        rw [tl_eq h1]
        cases s; simp [tl]
      have hks' : ¬ (k : Int) < (s.size : Int) := by omega
      clear hstep
      go_wp2_with fail
      exact bodyPost_ret (v := .string s) (by simp [results, Tryz.results187, go_sem]) rfl ⟨by rw [hfs.out], Ext.refl _⟩
end Go.Proofs.YtkcoikelcmpceaaGreatDoor
namespace Go.Proofs.YtkcoikelcmpceaaGreatDoor
open Go.RowKit
/-- A variable that may come up at any time: the operation, its slot, what it makes. -/
abbrev FL := Nat × Nat × Obj
def ptrB (b : Nat) : Value := .pointer (some ⟨b, 0, none⟩)
def putF : List FL → (Nat → Option Nat) → Act → Act
  | [], _, a => a
  | x :: fs, β, a => match β x.1 with
    | none => putF fs β a
    | some b => (putF fs β a).put (some x.2.1) (ptrB b)
def setB (β : Nat → Option Nat) (j b : Nat) : Nat → Option Nat := fun i => if i = j then some b else β i
def np (fs : List FL) (β : Nat → Option Nat) : Nat := fs.countP fun x => (β x.1).isNone
theorem putF_congr {β β' : Nat → Option Nat} {a : Act} : ∀ {fs : List FL}, (∀ x ∈ fs, β x.1 = β' x.1) → putF fs β a = putF fs β' a
  | [], _ => rfl
  | x :: fs, h => by
    unfold putF
    rw [h x (by simp), putF_congr (fs := fs) fun y hy => h y (by simp [hy])]
theorem putF_put {β : Nat → Option Nat} {a : Act} {d : Option Tmp} {v : Value} : ∀ {fs : List FL}, (∀ x ∈ fs, d ≠ some x.2.1) → putF fs β (a.put d v) = (putF fs β a).put d v
  | [], _ => rfl
  | x :: fs, h => by
    unfold putF
    rw [putF_put (fs := fs) fun y hy => h y (by simp [hy])]
    cases β x.1 with
    | none => rfl
    | some b => exact Act.put_comm _ _ _ fun e he hx => h x (by simp) (by rw [he, hx])
theorem putF_set {β : Nat → Option Nat} {a : Act} {x : FL} {b : Nat} : ∀ {fs : List FL}, x ∈ fs → (fs.map (·.1)).Nodup → (fs.map (·.2.1)).Nodup → β x.1 = none → putF fs (setB β x.1 b) a = (putF fs β a).put (some x.2.1) (ptrB b)
  | [], h, _, _, _ => by cases h
  | y :: fs, h, hn, hs, hb => by
    simp only [List.map_cons, List.nodup_cons, List.mem_map, not_exists, not_and] at hn hs
    unfold putF
    by_cases hxy : y.1 = x.1
    · have hyx : y = x := by
        rcases List.mem_cons.1 h with rfl | h'
        · rfl
        · exact absurd hxy.symm (hn.1 x h')
      subst hyx
      have e : putF fs (setB β y.1 b) a = putF fs β a := putF_congr fun z hz => by
        unfold setB; rw [if_neg (fun e => hn.1 z hz e)]
      simp only [setB, if_true, hb] at e ⊢
      rw [e]
    · have hx : x ∈ fs := by
        rcases List.mem_cons.1 h with rfl | h'
        · exact absurd rfl hxy
        · exact h'
      have e : setB β x.1 b y.1 = β y.1 := by unfold setB; rw [if_neg hxy]
      rw [e, putF_set hx hn.2 hs.2 hb]
      cases β y.1 with
      | none => rfl
      | some b' => exact Act.put_comm _ _ _ fun d hd hd' => hs.1 x hx (by simp_all)
theorem np_set {β : Nat → Option Nat} {x : FL} {b : Nat} : ∀ {fs : List FL}, x ∈ fs → (fs.map (·.1)).Nodup → β x.1 = none → np fs (setB β x.1 b) + 1 = np fs β
  | [], h, _, _ => by cases h
  | y :: fs, h, hn, hb => by
    simp only [List.map_cons, List.nodup_cons, List.mem_map, not_exists, not_and] at hn
    unfold np
    rw [List.countP_cons, List.countP_cons]
    by_cases hxy : y.1 = x.1
    · have e : fs.countP (fun z => (setB β x.1 b z.1).isNone) = fs.countP (fun z => (β z.1).isNone) := by
        refine List.countP_congr fun z hz => ?_
        rw [show setB β x.1 b z.1 = β z.1 by unfold setB; rw [if_neg (fun e => hn.1 z hz (e.trans hxy.symm))]]
      rw [e, show setB β x.1 b y.1 = some b by unfold setB; rw [if_pos hxy], show β y.1 = none by rw [hxy]; exact hb]
      simp
    · have hx : x ∈ fs := by
        rcases List.mem_cons.1 h with rfl | h'
        · exact absurd rfl hxy
        · exact h'
      have ih := np_set (b := b) hx hn.2 hb
      unfold np at ih
      rw [show setB β x.1 b y.1 = β y.1 by unfold setB; rw [if_neg hxy]]
      omega
theorem nodup_inj {x y : FL} : ∀ {fs : List FL}, (fs.map (·.1)).Nodup → x ∈ fs → y ∈ fs → x.1 = y.1 → x = y
  | [], _, h, _, _ => by cases h
  | z :: fs, hn, hx, hy, e => by
    simp only [List.map_cons, List.nodup_cons, List.mem_map, not_exists, not_and] at hn
    rcases List.mem_cons.1 hx with rfl | hx'
    · rcases List.mem_cons.1 hy with rfl | hy'
      · rfl
      · exact absurd e.symm (hn.1 y hy')
    · rcases List.mem_cons.1 hy with rfl | hy'
      · exact absurd e (hn.1 x hx')
      · exact nodup_inj hn.2 hx' hy' e
theorem np_zero {β : Nat → Option Nat} {fs : List FL} (h : np fs β = 0) : ∀ x ∈ fs, ∃ b, β x.1 = some b := by
  intro x hx
  have := List.countP_eq_zero.1 h x hx
  cases hb : β x.1 with
  | none => simp [hb] at this
  | some b => exact ⟨b, rfl⟩
theorem np_pos {β : Nat → Option Nat} {fs : List FL} (h : np fs β ≠ 0) : ∃ x ∈ fs, β x.1 = none := by
  obtain ⟨x, hx, hb⟩ := List.countP_pos_iff.1 (Nat.pos_of_ne_zero h)
  exact ⟨x, hx, by simpa using hb⟩
section
variable {P : Program} {ops : Array Oper} {Q : Exit → Act → World → Prop} {tl : List Nat}
theorem wpOp_put1 {j : Nat} {oj : Oper} {d : Tmp} {v : Value} (hj : ops[j]? = some oj) (hsj : ∀ cs b, oj.op ≠ .select cs b) (h1 : d ∉ oj.looksAt ops) (h2 : oj.dst ≠ some d)
    (hQ : ∀ c a w, Q (.panic c) a w → Q (.panic c) (a.put (some d) v) w) {K : Act → World → Prop} {a : Act} {w : World} (h : wpOp P ops Q j K a w) :
    wpOp P ops Q j (fun a' w' => ∃ a'', a' = a''.put (some d) v ∧ K a'' w') (a.put (some d) v) w := by
  have h1' : ∀ e, (some d : Option Tmp) = some e → e ∉ oj.looksAt ops := fun e he => by obtain rfl := Option.some.inj he; exact h1
  have h2' : ∀ e, (some d : Option Tmp) = some e → oj.dst ≠ some e := fun e he => by obtain rfl := Option.some.inj he; exact h2
  unfold wpOp at *
  simp only [hj] at *
  rw [wanted_put oj a (some d) v h1']
  split
  · rename_i hw
    simp only [hw, if_true] at h
    rcases h with h | ⟨hasks, hlets⟩
    case inr => exact .inr ⟨by unfold Oper.asks at *; rw [execOp_put oj hsj a (some d) v h1']; exact hasks, hlets⟩
    refine .inl ?_
    unfold Oper.wp at *
    rw [execOp_put oj hsj a (some d) v h1']
    generalize (execOp a.eval oj).run P w = r at *
    cases r with
    | ok n w' =>
      cases n <;> simp only [Oper.upon] at h ⊢
      case value u => exact ⟨_, Act.put_comm a v u h2', h⟩
      case skip => exact ⟨_, Act.put_comm a v undef h2', h⟩
      case defer f => exact ⟨_, Act.put_comm { a with defers := f :: a.defers } v undef h2', h⟩
      case enter f args =>
        refine Calls.mono h fun e w'' he => ?_
        cases e with
        | returned u => exact ⟨_, Act.put_comm a v u h2', he⟩
        | panicked c => exact hQ _ _ _ he
        | outgrown => exact he
      case row row args => exact Rows.mono h fun u w'' he => ⟨_, Act.put_comm a v u h2', he⟩
    | halt x w' =>
      cases x <;> simp only [Oper.upon] at h ⊢
      case panic u => exact hQ _ _ _ h
  · rename_i hw
    simp only [hw] at h
    exact ⟨_, Act.put_comm a v undef h2', h⟩
theorem wpOp_putF {j : Nat} {oj : Oper} {β : Nat → Option Nat} (hj : ops[j]? = some oj) (hsj : ∀ cs b, oj.op ≠ .select cs b) (hQ : ∀ c a d v w, Q (.panic c) a w → Q (.panic c) (a.put d v) w)
    {K : Act → World → Prop} {a : Act} {w : World} (h : wpOp P ops Q j K a w) : ∀ {fs : List FL}, (∀ x ∈ fs, x.2.1 ∉ oj.looksAt ops ∧ oj.dst ≠ some x.2.1) →
    wpOp P ops Q j (fun a' w' => ∃ a'', a' = putF fs β a'' ∧ K a'' w') (putF fs β a) w
  | [], _ => wpOp_mono (fun a' w' h' => ⟨a', rfl, h'⟩) h
  | x :: fs, hx => by
    have ih := wpOp_putF (β := β) hj hsj hQ h (fs := fs) fun y hy => hx y (by simp [hy])
    unfold putF
    cases β x.1 with
    | none => exact ih
    | some b =>
      refine wpOp_mono ?_ (wpOp_put1 (v := ptrB b) hj hsj (hx x (by simp)).1 (hx x (by simp)).2 (fun c a w => hQ c a _ _ w) ih)
      rintro a' w' ⟨a1, rfl, a2, rfl, hk⟩
      exact ⟨a2, rfl, hk⟩
theorem yields_putF {S : World → Prop} {o : Oper} {v : Value} {a : Act} {β : Nat → Option Nat} (hs : ∀ cs b, o.op ≠ .select cs b) (hy : YieldsIf P ops S o v a) : ∀ {fs : List FL}, (∀ x ∈ fs, x.2.1 ∉ o.looksAt ops) → YieldsIf P ops S o v (putF fs β a)
  | [], _ => hy
  | x :: fs, hx => by
    have ih := yields_putF (β := β) hs hy (fs := fs) fun y hy => hx y (by simp [hy])
    unfold putF
    cases β x.1 with
    | none => exact ih
    | some b =>
      have h1 : ∀ e, (some x.2.1 : Option Tmp) = some e → e ∉ o.looksAt ops := fun e he => by obtain rfl := Option.some.inj he; exact hx x (by simp)
      exact ih.of_same (execOp_put o hs _ _ _ h1) (wanted_put o _ _ _ h1)
/-- As 'wpAnyT'; an operation of 'pu' reads no memory: it may come up behind those of 'tl', too. -/
def wpAnyU (P : Program) (ops : Array Oper) (Q : Exit → Act → World → Prop) (S : World → Prop) (tl pu : List Nat) : Nat → Array Bool → Act → World → Prop
  | 0, listed, a, w => Region.ready .any ops listed = [] ∧ Q .normal a w
  | fuel + 1, listed, a, w =>
    (Region.ready .any ops listed = [] → Q .normal a w) ∧
    ∀ i ∈ Region.ready .any ops listed, wpOp P ops Q i (fun a' w' => (tl.contains i = false → (pu.contains i = true → S w) → S w') ∧ wpAnyU P ops Q S tl pu fuel (listed.setIfInBounds i true) a' w') a w
theorem wpAny_of_U {S : World → Prop} {pu : List Nat} : ∀ (fuel : Nat) (listed : Array Bool) (a : Act) (w : World), wpAnyU P ops Q S tl pu fuel listed a w → wpAny P .any ops Q fuel listed a w
  | 0, _, _, _, h => h
  | fuel + 1, _, _, _, h => ⟨h.1, fun i hi => wpOp_mono (fun a' w' h' => wpAny_of_U fuel _ a' w' h'.2) (h.2 i hi)⟩
/-- k is i, or waits for it by way of others that have not come up. -/
def dep (ops : Array Oper) (listed : Array Bool) (i : Nat) : Nat → Nat → Prop
  | 0, k => k = i
  | n + 1, k => k = i ∨ (listed.getD k false = false ∧ ∃ om, ops[k]? = some om ∧ ∃ e' ∈ om.after, Region.binds .any e' = true ∧ dep ops listed i n e'.on)
theorem dep_top {listed : Array Bool} {i : Nat} : ∀ {n k : Nat}, dep ops listed i n k → k = i ∨ listed.getD k false = false
  | 0, _, h => .inl h
  | _ + 1, _, .inl h => .inl h
  | _ + 1, _, .inr h => .inr h.1
theorem dep_set {listed : Array Bool} {i j : Nat} {oj : Oper} (hoj : ops[j]? = some oj) (hall : ∀ e ∈ oj.after, Region.binds .any e = true → listed.getD e.on false = true) (hnot : ∀ e ∈ oj.after, Region.binds .any e = true → e.on ≠ i) :
    ∀ (n k : Nat), dep ops listed i n k → dep ops (listed.setIfInBounds j true) i n k
  | 0, _, h => h
  | _ + 1, _, .inl h => .inl h
  | n + 1, k, .inr ⟨ho, om, hom, e', he', hb', hd⟩ => by
    refine .inr ⟨?_, om, hom, e', he', hb', dep_set hoj hall hnot n _ hd⟩
    have hje : j ≠ k := fun hje => by
      subst hje
      rw [hoj] at hom
      obtain rfl := Option.some.inj hom
      rcases dep_top hd with h | h
      · exact hnot e' he' hb' h
      · rw [hall e' he' hb'] at h; cases h
    rw [getD_set_ne false hje]; exact ho
/-- Every tail operation that has not come up waits for i, or for others that do. -/
def waits2 (ops : Array Oper) (tl : List Nat) (listed : Array Bool) (i : Nat) : Prop :=
  ∀ j oj, ops[j]? = some oj → tl.contains j = true → listed.getD j true = false → ∃ e ∈ oj.after, Region.binds .any e = true ∧ dep ops listed i 4 e.on
theorem wpAnyU_first {S : World → Prop} {pu : List Nat} {i : Nat} {oi : Oper} {v : Value} (hi : ops[i]? = some oi) (hsel : ∀ (j : Nat) (o : Oper) cs b, ops[j]? = some o → o.op ≠ .select cs b)
    (hQ : ∀ c a w, Q (.panic c) (a.put oi.dst v) w → Q (.panic c) a w) :
    ∀ (fuel : Nat) (listed : Array Bool) (a : Act) (w : World),
      (∀ j oj, ops[j]? = some oj → j ≠ i → listed.getD j true = false → (∀ e ∈ oj.after, Region.binds .any e = true → e.on ≠ i) → oi.apart ops oj = true) →
      waits2 ops tl listed i →
      i ∈ Region.ready .any ops listed → YieldsIf P ops S oi v a → S w →
      wpAnyU P ops Q S tl pu fuel (listed.setIfInBounds i true) (a.put oi.dst v) w → wpAnyU P ops Q S tl pu (fuel + 1) listed a w := by
  intro fuel
  induction fuel with
  | zero =>
    intro listed a w _ _ hr hy hS H
    refine ⟨fun h => (by rw [h] at hr; cases hr), fun j hj => ?_⟩
    by_cases hji : j = i
    · subst hji; exact hy.wpOp hi hS ⟨fun _ _ => hS, H⟩
    · have := ready_mono hj hji
      rw [H.1] at this
      cases this
  | succ fuel ih =>
    intro listed a w hfree hwt hr hy hS H
    refine ⟨fun h => (by rw [h] at hr; cases hr), fun j hj => ?_⟩
    by_cases hji : j = i
    · subst hji; exact hy.wpOp hi hS ⟨fun _ _ => hS, H⟩
    · have h1 := H.2 j (ready_mono hj hji)
      obtain ⟨hjun, oj, hoj, hall⟩ := mem_ready.1 hj
      have hnot : ∀ e ∈ oj.after, Region.binds .any e = true → e.on ≠ i := fun e he hb heq => by
        have h1 := hall e he hb
        have h0 := (mem_ready.1 hr).1
        rw [heq] at h1
        rcases Nat.lt_or_ge i listed.size with h' | h'
        · simp [h'] at h0 h1; rw [h0] at h1; cases h1
        · simp [Array.getElem?_eq_none h'] at h1
      have htj : tl.contains j = false := by
        cases hc : tl.contains j with
        | false => rfl
        | true =>
          obtain ⟨e, he, hb, ho⟩ := hwt j oj hoj hc hjun
          rcases dep_top ho with ho | ho
          · exact absurd ho (hnot e he hb)
          · have := hall e he hb
            rw [ho] at this; cases this
      have h2 := wpOp_putIf hoj (hfree j oj hoj hji hjun hnot) (fun cs b => hsel i oi cs b hi) (fun cs b => hsel j oj cs b hoj) hQ hy h1
      have hfree' : ∀ k ok, ops[k]? = some ok → k ≠ i → (listed.setIfInBounds j true).getD k true = false →
          (∀ e ∈ ok.after, Region.binds .any e = true → e.on ≠ i) → oi.apart ops ok = true := fun k ok hk hki hun hno => by
        refine hfree k ok hk hki ?_ hno
        by_cases hjk : j = k
        · subst hjk; exact hjun
        · rw [getD_set_ne true hjk] at hun; exact hun
      have hwt' : waits2 ops tl (listed.setIfInBounds j true) i := fun k ok hk htk hun => by
        obtain ⟨e, he, hb, ho⟩ := hwt k ok hk htk (by
          by_cases hjk : j = k
          · subst hjk; exact hjun
          · rw [getD_set_ne true hjk] at hun; exact hun)
        exact ⟨e, he, hb, dep_set hoj hall hnot _ _ ho⟩
      refine wpOp_mono (fun a' w' h3 => ⟨h3.2.1, ih (listed.setIfInBounds j true) a' w' hfree' hwt' (ready_mono hr (Ne.symm hji)) h3.1 (h3.2.1 htj fun _ => hS) ?_⟩) h2
      rw [Array.setIfInBounds_comm _ _ hji]
      exact h3.2.2
theorem wpAnyU_pure {S : World → Prop} {pu : List Nat} {i : Nat} {oi : Oper} {v : Value} (hi : ops[i]? = some oi) (hsel : ∀ (j : Nat) (o : Oper) cs b, ops[j]? = some o → o.op ≠ .select cs b)
    (hpi : pu.contains i = true) (hQ : ∀ c a w, Q (.panic c) (a.put oi.dst v) w → Q (.panic c) a w) :
    ∀ (fuel : Nat) (listed : Array Bool) (a : Act) (w : World),
      (∀ j oj, ops[j]? = some oj → j ≠ i → listed.getD j true = false → (∀ e ∈ oj.after, Region.binds .any e = true → e.on ≠ i) → oi.apart ops oj = true) →
      i ∈ Region.ready .any ops listed → YieldsIf P ops (fun _ => True) oi v a →
      wpAnyU P ops Q S tl pu fuel (listed.setIfInBounds i true) (a.put oi.dst v) w → wpAnyU P ops Q S tl pu (fuel + 1) listed a w := by
  intro fuel
  induction fuel with
  | zero =>
    intro listed a w _ hr hy H
    refine ⟨fun h => (by rw [h] at hr; cases hr), fun j hj => ?_⟩
    by_cases hji : j = i
    · subst hji; exact hy.wpOp hi trivial ⟨fun _ h => h hpi, H⟩
    · have := ready_mono hj hji
      rw [H.1] at this
      cases this
  | succ fuel ih =>
    intro listed a w hfree hr hy H
    refine ⟨fun h => (by rw [h] at hr; cases hr), fun j hj => ?_⟩
    by_cases hji : j = i
    · subst hji; exact hy.wpOp hi trivial ⟨fun _ h => h hpi, H⟩
    · have h1 := H.2 j (ready_mono hj hji)
      obtain ⟨hjun, oj, hoj, hall⟩ := mem_ready.1 hj
      have hnot : ∀ e ∈ oj.after, Region.binds .any e = true → e.on ≠ i := fun e he hb heq => by
        have h1 := hall e he hb
        have h0 := (mem_ready.1 hr).1
        rw [heq] at h1
        rcases Nat.lt_or_ge i listed.size with h' | h'
        · simp [h'] at h0 h1; rw [h0] at h1; cases h1
        · simp [Array.getElem?_eq_none h'] at h1
      have h2 := wpOp_putIf hoj (hfree j oj hoj hji hjun hnot) (fun cs b => hsel i oi cs b hi) (fun cs b => hsel j oj cs b hoj) hQ hy h1
      have hfree' : ∀ k ok, ops[k]? = some ok → k ≠ i → (listed.setIfInBounds j true).getD k true = false →
          (∀ e ∈ ok.after, Region.binds .any e = true → e.on ≠ i) → oi.apart ops ok = true := fun k ok hk hki hun hno => by
        refine hfree k ok hk hki ?_ hno
        by_cases hjk : j = k
        · subst hjk; exact hjun
        · rw [getD_set_ne true hjk] at hun; exact hun
      refine wpOp_mono (fun a' w' h3 => ⟨h3.2.1, ih (listed.setIfInBounds j true) a' w' hfree' (ready_mono hr (Ne.symm hji)) h3.1 ?_⟩) h2
      rw [Array.setIfInBounds_comm _ _ hji]
      exact h3.2.2
/-- What ends the region, one behind the other. -/
def wpTl (P : Program) (ops : Array Oper) (Q : Exit → Act → World → Prop) : List Nat → Act → World → Prop
  | [], a, w => Q .normal a w
  | i :: rest, a, w => wpOp P ops Q i (wpTl P ops Q rest) a w
def tailOk (ops : Array Oper) (tl : List Nat) : Array Bool → List Nat → Bool
  | listed, [] => (Region.ready .any ops listed).isEmpty
  | listed, i :: rest => (Region.ready .any ops listed == [i]) && tl.contains i && tailOk ops tl (listed.setIfInBounds i true) rest
theorem wpTl_sound {S : World → Prop} {pu : List Nat} : ∀ (tp : List Nat) (listed : Array Bool) (a : Act) (w : World), tailOk ops tl listed tp = true → wpTl P ops Q tp a w → wpAnyU P ops Q S tl pu tp.length listed a w
  | [], listed, a, w, ho, h => ⟨by simpa [tailOk] using ho, h⟩
  | i :: rest, listed, a, w, ho, h => by
    simp only [tailOk, Bool.and_eq_true, beq_iff_eq] at ho
    obtain ⟨⟨h1, h2⟩, h3⟩ := ho
    refine ⟨fun h0 => (by rw [h1] at h0; cases h0), fun j hj => ?_⟩
    rw [h1] at hj
    obtain rfl : j = i := by simpa using hj
    exact wpOp_mono (fun a' w' h' => ⟨fun ht => (by rw [h2] at ht; cases ht), wpTl_sound rest _ _ _ h3 h'⟩) h
theorem wpTl_op {i : Nat} {o : Oper} {rest : List Nat} {a : Act} {w : World} (hi : ops.toList[i]? = some o) (hw : Region.wanted o (yielded ops a.tmps) = true) (h : ∀ K : Act → World → Prop, (∀ a' w', wpTl P ops Q rest a' w' → K a' w') → o.wp P a w K Q) :
    wpTl P ops Q (i :: rest) a w := by
  have hi' : ops[i]? = some o := by simpa using hi
  show wpOp _ _ _ _ _ _ _
  unfold wpOp
  simp only [hi', hw, if_true]
  exact .inl (h _ fun a' w' hk => hk)
theorem wpTl_nil {a : Act} {w : World} (h : Q .normal a w) : wpTl P ops Q [] a w := h
/-- The walk by a plan, whatever the new variables' turns. -/
def wpFp (P : Program) (ops : Array Oper) (Q : Exit → Act → World → Prop) (W0 : World) (fs : List FL) (tp : List Nat) : List (Nat × Nat) → Act → (World → Prop) → Prop
  | [], a, E => ∀ (β : Nat → Option Nat) (w : World), Ext W0 w → E w → (∀ x ∈ fs, ∃ b, β x.1 = some b ∧ w.heap[b]? = some x.2.2 ∧ W0.heap.size ≤ b) →
      (∀ x ∈ fs, ∀ y ∈ fs, ∀ b, β x.1 = some b → β y.1 = some b → x.1 = y.1) → wpTl P ops Q tp (putF fs β a) w
  | (i, 0) :: rest, a, E => ∃ o v, ops[i]? = some o ∧ YieldsIf P ops (Ext W0) o v a ∧ wpFp P ops Q W0 fs tp rest (a.put o.dst v) E
  | (i, 2) :: rest, a, E => ∃ o v, ops[i]? = some o ∧ YieldsIf P ops (fun _ => True) o v a ∧ wpFp P ops Q W0 fs tp rest (a.put o.dst v) E
  | (i, _) :: rest, a, E => ∀ w, Ext W0 w → E w → wpOp P ops Q i (fun a' w' => Ext w w' ∧ ∃ E' : World → Prop, (∀ w1 w2, Ext w1 w2 → E' w1 → E' w2) ∧ E' w' ∧ wpFp P ops Q W0 fs tp rest a' E') a w
def floatsOk (ops : Array Oper) (fs : List FL) (tl : List Nat) : Bool :=
  fs.all (fun x => match ops[x.1]? with
    | some o => o.guard.isNone && o.dst == some x.2.1 && o.after.all (fun e => !Region.binds .any e) && !tl.contains x.1
    | none => false) &&
  decide (fs.map (·.1)).Nodup && decide (fs.map (·.2.1)).Nodup &&
  (List.range ops.size).all (fun j => (fs.map (·.1)).contains j || match ops[j]? with
    | none => true
    | some oj =>
      if tl.contains j then fs.all (fun x => oj.after.any (fun e => Region.binds .any e && e.on == x.1))
      else oj.after.all (fun e => !Region.binds .any e || !(fs.map (·.1)).contains e.on) &&
        fs.all (fun x => !(oj.looksAt ops).contains x.2.1 && oj.dst != some x.2.1 && (match ops[x.1]? with | some o => oj.apart ops o | none => false)))
def depB (ops : Array Oper) (F : List Nat) (listed : Array Bool) (i : Nat) : Nat → Nat → Bool
  | 0, k => k == i
  | n + 1, k => k == i || (!F.contains k && !listed.getD k false && match ops[k]? with | some om => om.after.any (fun e' => Region.binds .any e' && depB ops F listed i n e'.on) | none => false)
def planF (ops : Array Oper) (F : List Nat) (tl pu : List Nat) : Array Bool → List (Nat × Nat) → Bool
  | listed, [] => (List.range ops.size).all (fun j => listed.getD j true || tl.contains j)
  | listed, (i, 0) :: rest => Region.free .any ops listed i && (Region.ready .any ops listed).contains i && !tl.contains i && !F.contains i &&
      tl.all (fun j => listed.getD j true || match ops[j]? with | some oj => oj.after.any (fun e => Region.binds .any e && depB ops F listed i 4 e.on) | none => true) && planF ops F tl pu (listed.setIfInBounds i true) rest
  | listed, (i, 2) :: rest => Region.free .any ops listed i && (Region.ready .any ops listed).contains i && !tl.contains i && !F.contains i && pu.contains i && planF ops F tl pu (listed.setIfInBounds i true) rest
  | listed, (i, _) :: rest => (Region.ready .any ops listed == [i]) && !tl.contains i && !F.contains i && !pu.contains i && planF ops F tl pu (listed.setIfInBounds i true) rest
def listAll (listed : Array Bool) (pl : List (Nat × Nat)) : Array Bool := pl.foldl (fun l x => l.setIfInBounds x.1 true) listed
/-- How far the floats have come up. -/
structure Rel (fs : List FL) (listed lF : Array Bool) (β : Nat → Option Nat) : Prop where
  size : listed.size = lF.size
  main : ∀ j, j ∉ fs.map (·.1) → listed[j]? = lF[j]?
  done : ∀ x ∈ fs, listed[x.1]? = some (β x.1).isSome ∧ lF[x.1]? = some true
theorem Rel.step {fs : List FL} {listed lF : Array Bool} {β : Nat → Option Nat} (h : Rel fs listed lF β) {i : Nat} (hi : i ∉ fs.map (·.1)) : Rel fs (listed.setIfInBounds i true) (lF.setIfInBounds i true) β := by
  refine ⟨by simp [h.size], fun j hj => ?_, fun x hx => ?_⟩
  · rw [Array.getElem?_setIfInBounds, Array.getElem?_setIfInBounds, h.size, h.main j hj]
  · have hne : i ≠ x.1 := fun e => hi (by rw [e]; exact List.mem_map.2 ⟨x, hx, rfl⟩)
    rw [Array.getElem?_setIfInBounds_ne hne, Array.getElem?_setIfInBounds_ne hne]
    exact h.done x hx
theorem Rel.float {fs : List FL} {listed lF : Array Bool} {β : Nat → Option Nat} (h : Rel fs listed lF β) {x : FL} (hx : x ∈ fs) (b : Nat) : Rel fs (listed.setIfInBounds x.1 true) lF (setB β x.1 b) := by
  refine ⟨by simp [h.size], fun j hj => ?_, fun y hy => ?_⟩
  · rw [Array.getElem?_setIfInBounds_ne (fun e => hj (by rw [← e]; exact List.mem_map.2 ⟨x, hx, rfl⟩))]; exact h.main j hj
  · refine ⟨?_, (h.done y hy).2⟩
    have hl := (h.done y hy).1
    by_cases hxy : x.1 = y.1
    · rw [← hxy, Array.getElem?_setIfInBounds_self]
      have : x.1 < listed.size := by rw [hxy]; exact (Array.getElem?_eq_some_iff.1 hl).1
      simp [this, setB]
    · rw [Array.getElem?_setIfInBounds_ne hxy, hl]
      unfold setB; rw [if_neg (fun e => hxy e.symm)]
theorem getD_of {l : Array Bool} {j : Nat} {b d : Bool} (h : l[j]? = some b) : l.getD j d = b := by simp [h]
theorem getD_same {l l' : Array Bool} {j : Nat} {d : Bool} (h : l[j]? = l'[j]?) : l.getD j d = l'.getD j d := by simp [h]
theorem dep_of {fs : List FL} {listed lF : Array Bool} {β : Nat → Option Nat} (hR : Rel fs listed lF β) {i : Nat} : ∀ (n k : Nat), depB ops (fs.map (·.1)) lF i n k = true → dep ops listed i n k
  | 0, k, h => by show k = i; simpa [depB] using h
  | n + 1, k, h => by
    simp only [depB, Bool.or_eq_true, beq_iff_eq, Bool.and_eq_true, Bool.not_eq_true'] at h
    rcases h with h | ⟨⟨hF, hun⟩, h⟩
    · exact .inl h
    · right
      refine ⟨by rw [getD_same (hR.main k (by simpa using hF))]; exact hun, ?_⟩
      cases hom : ops[k]? with
      | none => rw [hom] at h; cases h
      | some om =>
        rw [hom] at h
        obtain ⟨e', he', hb'⟩ := Array.any_eq_true'.1 h
        simp only [Bool.and_eq_true] at hb'
        exact ⟨om, rfl, e', he', hb'.1, dep_of hR n _ hb'.2⟩
/-- What floatsOk says. -/
structure FOk (ops : Array Oper) (fs : List FL) (tl : List Nat) : Prop where
  fl : ∀ x ∈ fs, ∃ o, ops[x.1]? = some o ∧ o.guard = none ∧ o.dst = some x.2.1 ∧ (∀ e ∈ o.after, Region.binds .any e = false) ∧ tl.contains x.1 = false
  n1 : (fs.map (·.1)).Nodup
  n2 : (fs.map (·.2.1)).Nodup
  tail : ∀ j oj, ops[j]? = some oj → j ∉ fs.map (·.1) → tl.contains j = true → ∀ x ∈ fs, ∃ e ∈ oj.after, Region.binds .any e = true ∧ e.on = x.1
  main : ∀ j oj, ops[j]? = some oj → j ∉ fs.map (·.1) → tl.contains j = false → (∀ e ∈ oj.after, Region.binds .any e = true → e.on ∉ fs.map (·.1)) ∧ ∀ x ∈ fs, x.2.1 ∉ oj.looksAt ops ∧ oj.dst ≠ some x.2.1 ∧ ∀ o, ops[x.1]? = some o → oj.apart ops o = true
theorem FOk.of {fs : List FL} (h : floatsOk ops fs tl = true) : FOk ops fs tl := by
  simp only [floatsOk, Bool.and_eq_true, decide_eq_true_eq, List.all_eq_true] at h
  obtain ⟨⟨⟨h1, h2⟩, h3⟩, h4⟩ := h
  refine ⟨fun x hx => ?_, h2, h3, fun j oj hj hn ht x hx => ?_, fun j oj hj hn ht => ?_⟩
  · have := h1 x hx
    cases ho : ops[x.1]? with
    | none => rw [ho] at this; cases this
    | some o =>
      rw [ho] at this
      simp only [Bool.and_eq_true, Bool.not_eq_true', Option.isNone_iff_eq_none, beq_iff_eq, Array.all_eq_true_iff_forall_mem] at this
      exact ⟨o, rfl, this.1.1.1, this.1.1.2, this.1.2, this.2⟩
  · have := h4 j (List.mem_range.2 (Array.getElem?_eq_some_iff.1 hj).1)
    rw [show (fs.map (·.1)).contains j = false by simpa using hn, hj] at this
    simp only [Bool.false_or, ht, if_true, List.all_eq_true] at this
    obtain ⟨e, he, hb⟩ := Array.any_eq_true'.1 (this x hx)
    simp only [Bool.and_eq_true, beq_iff_eq] at hb
    exact ⟨e, he, hb⟩
  · have := h4 j (List.mem_range.2 (Array.getElem?_eq_some_iff.1 hj).1)
    rw [show (fs.map (·.1)).contains j = false by simpa using hn, hj] at this
    simp only [Bool.false_or, ht, Bool.false_eq_true, if_false, Bool.and_eq_true, List.all_eq_true, Array.all_eq_true_iff_forall_mem] at this
    refine ⟨fun e he hb hin => ?_, fun x hx => ?_⟩
    · have := this.1 e he
      rw [hb] at this
      simp only [Bool.not_true, Bool.false_or, Bool.not_eq_true'] at this
      exact absurd hin (by simpa using this)
    · have := this.2 x hx
      obtain ⟨⟨a1, a2⟩, a3⟩ := this
      refine ⟨by simpa using a1, by simpa using a2, fun o ho => ?_⟩
      rw [ho] at a3
      exact a3
theorem wpFp_sound {W0 : World} {fs : List FL} {tp pu : List Nat} (hok : FOk ops fs tl) (hsel : Region.noSelect ops = true) (hQ : ∀ c a d v w, Q (.panic c) (a.put d v) w → Q (.panic c) a w) (hQ' : ∀ c a d v w, Q (.panic c) a w → Q (.panic c) (a.put d v) w)
    (hob : ∀ x ∈ fs, ∀ o, ops[x.1]? = some o → ∀ (a : Act) (w : World), (execOp a.eval o).run P w = .ok (.value (ptrB w.heap.size)) (w.alloc x.2.2)) :
    ∀ (m : Nat) (pl : List (Nat × Nat)) (listed lF : Array Bool) (β : Nat → Option Nat) (a : Act) (E : World → Prop) (w : World), pl.length + np fs β = m → Rel fs listed lF β →
      planF ops (fs.map (·.1)) tl pu lF pl = true → tailOk ops tl (listAll lF pl) tp = true → Ext W0 w → (∀ w1 w2, Ext w1 w2 → E w1 → E w2) → E w →
      (∀ x ∈ fs, ∀ b, β x.1 = some b → w.heap[b]? = some x.2.2 ∧ W0.heap.size ≤ b) → (∀ x ∈ fs, ∀ y ∈ fs, ∀ b, β x.1 = some b → β y.1 = some b → x.1 = y.1) →
      wpFp P ops Q W0 fs tp pl a E → wpAnyU P ops Q (Ext W0) tl pu (m + tp.length) listed (putF fs β a) w := by
  intro m
  induction m with
  | zero =>
    intro pl listed lF β a E w hm hR hpl htp hX hst hE hbl hinj h
    obtain rfl : pl = [] := List.eq_nil_of_length_eq_zero (by omega)
    have hz : np fs β = 0 := by simpa using hm
    have hdone := np_zero hz
    have hl : listed = lF := by
      apply Array.ext_getElem?
      intro j
      by_cases hj : j ∈ fs.map (·.1)
      · obtain ⟨x, hx, rfl⟩ := List.mem_map.1 hj
        obtain ⟨b, hb⟩ := hdone x hx
        rw [(hR.done x hx).1, (hR.done x hx).2, hb]; rfl
      · exact hR.main j hj
    subst hl
    rw [Nat.zero_add]
    exact wpTl_sound tp _ _ _ htp (h β w hX hE (fun x hx => by obtain ⟨b, hb⟩ := hdone x hx; exact ⟨b, hb, hbl x hx b hb⟩) hinj)
  | succ m ih =>
    intro pl listed lF β a E w hm hR hpl htp hX hst hE hbl hinj h
    have hal : ∀ x ∈ fs, β x.1 = none → wpOp P ops Q x.1 (fun a' w' => (tl.contains x.1 = false → (pu.contains x.1 = true → Ext W0 w) → Ext W0 w') ∧ wpAnyU P ops Q (Ext W0) tl pu (m + tp.length) (listed.setIfInBounds x.1 true) a' w') (putF fs β a) w := by
      intro x hx hb
      obtain ⟨o, ho, hg, hd, _, _⟩ := hok.fl x hx
      unfold wpOp
      simp only [ho]
      rw [if_pos (by simp [Region.wanted, hg])]
      refine .inl ?_
      unfold Oper.wp
      rw [hob x hx o ho]
      have hnp := np_set (b := w.heap.size) hx hok.n1 hb
      have hXa : Ext w (w.alloc x.2.2) := (Ext.refl w).alloc _
      have key := ih pl (listed.setIfInBounds x.1 true) lF (setB β x.1 w.heap.size) a E (w.alloc x.2.2) (by omega) (hR.float hx _) hpl htp (hX.trans hXa) hst (hst _ _ hXa hE) ?_ ?_ h
      · rw [putF_set hx hok.n1 hok.n2 hb] at key
        simp only [Oper.upon, hd]
        exact ⟨fun _ _ => hX.trans hXa, key⟩
      · intro y hy b hyb
        by_cases hxy : y.1 = x.1
        · have hyx : y = x := by
            have := hok.n1
            exact nodup_inj this hy hx hxy
          subst hyx
          simp only [setB, if_true, Option.some.injEq] at hyb
          subst hyb
          exact ⟨heap_alloc_new _ _, hX.size⟩
        · simp only [setB, hxy, if_false] at hyb
          obtain ⟨h1, h2⟩ := hbl y hy b hyb
          have hlt : b < w.heap.size := by
            rcases Nat.lt_or_ge b w.heap.size with hl | hl
            · exact hl
            · rw [Array.getElem?_eq_none hl] at h1; cases h1
          exact ⟨by rw [hXa.block hlt]; exact h1, h2⟩
      · intro y hy z hz b hyb hzb
        have hlt : ∀ u ∈ fs, β u.1 = some b → b < w.heap.size := fun u hu hub => by
          obtain ⟨h1, _⟩ := hbl u hu b hub
          rcases Nat.lt_or_ge b w.heap.size with hl | hl
          · exact hl
          · rw [Array.getElem?_eq_none hl] at h1; cases h1
        unfold setB at hyb hzb
        split at hyb
        · rename_i e1
          split at hzb
          · rename_i e2; rw [e1, e2]
          · have := hlt z hz hzb
            simp only [Option.some.injEq] at hyb
            omega
        · split at hzb
          · have := hlt y hy hyb
            simp only [Option.some.injEq] at hzb
            omega
          · exact hinj y hy z hz b hyb hzb
    have hfr : ∀ x ∈ fs, β x.1 = none → x.1 ∈ Region.ready .any ops listed := by
      intro x hx hb
      obtain ⟨o, ho, _, _, ha, _⟩ := hok.fl x hx
      refine mem_ready.2 ⟨?_, o, ho, fun e he hbi => ?_⟩
      · rw [getD_of (hR.done x hx).1, hb]; rfl
      · rw [ha e he] at hbi; cases hbi
    have hfl : ∀ x ∈ fs, x.1 ∈ Region.ready .any ops listed → β x.1 = none := by
      intro x hx hr
      have h0 := (mem_ready.1 hr).1
      rw [getD_of (hR.done x hx).1] at h0
      cases hb : β x.1 with
      | none => rfl
      | some b => rw [hb] at h0; cases h0
    have hto : ∀ j, j ∉ fs.map (·.1) → j ∈ Region.ready .any ops listed → j ∈ Region.ready .any ops lF := by
      intro j hj hr
      obtain ⟨h0, o, ho, ha⟩ := mem_ready.1 hr
      refine mem_ready.2 ⟨by rw [← getD_same (hR.main j hj)]; exact h0, o, ho, fun e he hb => ?_⟩
      have h1 := ha e he hb
      by_cases hin : e.on ∈ fs.map (·.1)
      · obtain ⟨x, hx, hxe⟩ := List.mem_map.1 hin
        rw [← hxe, getD_of (hR.done x hx).2]
      · rw [← getD_same (hR.main _ hin)]; exact h1
    have hfrom : ∀ j oj, ops[j]? = some oj → j ∉ fs.map (·.1) → tl.contains j = false → j ∈ Region.ready .any ops lF → j ∈ Region.ready .any ops listed := by
      intro j oj hoj hj ht hr
      obtain ⟨h0, o, ho, ha⟩ := mem_ready.1 hr
      obtain rfl : oj = o := by rw [hoj] at ho; exact Option.some.inj ho
      refine mem_ready.2 ⟨by rw [getD_same (hR.main j hj)]; exact h0, oj, hoj, fun e he hb => ?_⟩
      rw [getD_same (hR.main _ ((hok.main j oj hoj hj ht).1 e he hb))]
      exact ha e he hb
    match pl, hm, hpl, htp, h with
    | [], hm, hpl, htp, h =>
      have hnz : np fs β ≠ 0 := by simp at hm; omega
      obtain ⟨x0, hx0, hb0⟩ := np_pos hnz
      rw [show m + 1 + tp.length = (m + tp.length) + 1 by omega]
      refine ⟨fun h0 => (by have := hfr x0 hx0 hb0; rw [h0] at this; cases this), fun j hj => ?_⟩
      by_cases hin : j ∈ fs.map (·.1)
      · obtain ⟨x, hx, rfl⟩ := List.mem_map.1 hin
        exact hal x hx (hfl x hx hj)
      · exfalso
        obtain ⟨h0, oj, hoj, ha⟩ := mem_ready.1 hj
        rw [getD_same (hR.main j hin)] at h0
        simp only [planF, List.all_eq_true] at hpl
        have := hpl j (List.mem_range.2 (Array.getElem?_eq_some_iff.1 hoj).1)
        rw [h0, Bool.false_or] at this
        obtain ⟨e, he, hb, hon⟩ := hok.tail j oj hoj hin this x0 hx0
        have h1 := ha e he hb
        rw [hon, getD_of (hR.done x0 hx0).1, hb0] at h1
        cases h1
    | (i, 0) :: rest, hm, hpl, htp, h =>
      obtain ⟨o, v, hi, hy, h⟩ := h
      simp only [planF, Bool.and_eq_true, Bool.not_eq_true'] at hpl
      obtain ⟨⟨⟨⟨⟨h1, h2⟩, h3⟩, h3'⟩, h4⟩, h5⟩ := hpl
      have hiF : i ∉ fs.map (·.1) := by simpa using h3'
      obtain ⟨hm1, hm2⟩ := hok.main i o hi hiF h3
      have key := ih rest (listed.setIfInBounds i true) (lF.setIfInBounds i true) β (a.put o.dst v) E w (by simp at hm; omega) (hR.step hiF) h5 htp hX hst hE hbl hinj h
      rw [putF_put fun x hx => (hm2 x hx).2.1] at key
      rw [show m + 1 + tp.length = (m + tp.length) + 1 by omega]
      refine wpAnyU_first hi (Region.noSelect_spec hsel) (fun c a w => hQ c a _ _ w) _ _ _ _ ?_ ?_ (hfrom i o hi hiF h3 (by simpa using h2)) (yields_putF (Region.noSelect_spec hsel i o · · hi) hy fun x hx => (hm2 x hx).1) hX key
      · intro j oj hj hji hun hno
        by_cases hin : j ∈ fs.map (·.1)
        · obtain ⟨x, hx, rfl⟩ := List.mem_map.1 hin
          exact (hm2 x hx).2.2 oj hj
        · exact Region.free_spec hi h1 j oj hj hji (by rw [← getD_same (hR.main j hin)]; exact hun) hno
      · intro j oj hj htj hun
        have hjF : j ∉ fs.map (·.1) := fun hin => by
          obtain ⟨x, hx, rfl⟩ := List.mem_map.1 hin
          obtain ⟨_, _, _, _, _, ht⟩ := hok.fl x hx
          rw [ht] at htj; cases htj
        have h6 := List.all_eq_true.1 h4 j (by simpa using htj)
        rw [getD_same (hR.main j hjF)] at hun
        rw [hj] at h6
        simp only [hun, Bool.false_or] at h6
        obtain ⟨e, he, hb⟩ := Array.any_eq_true'.1 h6
        simp only [Bool.and_eq_true] at hb
        exact ⟨e, he, hb.1, dep_of hR _ _ hb.2⟩
    | (i, 2) :: rest, hm, hpl, htp, h =>
      obtain ⟨o, v, hi, hy, h⟩ := h
      simp only [planF, Bool.and_eq_true, Bool.not_eq_true'] at hpl
      obtain ⟨⟨⟨⟨⟨h1, h2⟩, h3⟩, h3'⟩, h4⟩, h5⟩ := hpl
      have hiF : i ∉ fs.map (·.1) := by simpa using h3'
      obtain ⟨hm1, hm2⟩ := hok.main i o hi hiF h3
      have key := ih rest (listed.setIfInBounds i true) (lF.setIfInBounds i true) β (a.put o.dst v) E w (by simp at hm; omega) (hR.step hiF) h5 htp hX hst hE hbl hinj h
      rw [putF_put fun x hx => (hm2 x hx).2.1] at key
      rw [show m + 1 + tp.length = (m + tp.length) + 1 by omega]
      refine wpAnyU_pure hi (Region.noSelect_spec hsel) h4 (fun c a w => hQ c a _ _ w) _ _ _ _ ?_ (hfrom i o hi hiF h3 (by simpa using h2)) (yields_putF (Region.noSelect_spec hsel i o · · hi) hy fun x hx => (hm2 x hx).1) key
      intro j oj hj hji hun hno
      by_cases hin : j ∈ fs.map (·.1)
      · obtain ⟨x, hx, rfl⟩ := List.mem_map.1 hin
        exact (hm2 x hx).2.2 oj hj
      · exact Region.free_spec hi h1 j oj hj hji (by rw [← getD_same (hR.main j hin)]; exact hun) hno
    | (i, 1) :: rest, hm, hpl, htp, h | (i, k + 3) :: rest, hm, hpl, htp, h =>
      simp only [planF, Bool.and_eq_true, Bool.not_eq_true', beq_iff_eq] at hpl
      obtain ⟨⟨⟨⟨h1, h2⟩, h3⟩, h4⟩, h5⟩ := hpl
      have hiF : i ∉ fs.map (·.1) := by simpa using h3
      have hir : i ∈ Region.ready .any ops lF := by rw [h1]; simp
      obtain ⟨_, o, hi, _⟩ := mem_ready.1 hir
      rw [show m + 1 + tp.length = (m + tp.length) + 1 by omega]
      refine ⟨fun h0 => (by have := hfrom i o hi hiF h2 hir; rw [h0] at this; cases this), fun j hj => ?_⟩
      by_cases hin : j ∈ fs.map (·.1)
      · obtain ⟨x, hx, rfl⟩ := List.mem_map.1 hin
        exact hal x hx (hfl x hx hj)
      · have hjr := hto j hin hj
        rw [h1] at hjr
        obtain rfl : j = i := by simpa using hjr
        obtain ⟨_, hm2⟩ := hok.main j o hi hiF h2
        refine wpOp_mono ?_ (wpOp_putF (β := β) hi (Region.noSelect_spec hsel j o · · hi) hQ' (h w hX hE) (fs := fs) fun x hx => ⟨(hm2 x hx).1, (hm2 x hx).2.1⟩)
        rintro a' w' ⟨a'', rfl, hXw, E', hst', hE', hk⟩
        refine ⟨fun _ _ => hX.trans hXw, ih rest (listed.setIfInBounds j true) (lF.setIfInBounds j true) β a'' E' w' (by simp at hm; omega) (hR.step hiF) h5 htp (hX.trans hXw) hst' hE' ?_ hinj hk⟩
        intro y hy b hyb
        obtain ⟨g1, g2⟩ := hbl y hy b hyb
        have hlt : b < w.heap.size := by
          rcases Nat.lt_or_ge b w.heap.size with hl | hl
          · exact hl
          · rw [Array.getElem?_eq_none hl] at g1; cases g1
        exact ⟨by rw [hXw.block hlt]; exact g1, g2⟩
/-- **The region, by a plan, with new variables at any time.** -/
theorem wp_float {id : Nat} {a : Act} {w : World} (fs : List FL) (pl : List (Nat × Nat)) (tp tl pu : List Nat) (hm : P.follows .mixedOrders = true) (hsel : Region.noSelect ops = true)
    (hok : (floatsOk ops fs tl && planF ops (fs.map (·.1)) tl pu (fs.foldl (fun l x => l.setIfInBounds x.1 true) (Array.replicate ops.size false)) pl && tailOk ops tl (listAll (fs.foldl (fun l x => l.setIfInBounds x.1 true) (Array.replicate ops.size false)) pl) tp && pl.length + fs.length + tp.length == ops.size) = true)
    (hQ : ∀ c a d v w, Q (.panic c) (a.put d v) w → Q (.panic c) a w) (hQ' : ∀ c a d v w, Q (.panic c) a w → Q (.panic c) (a.put d v) w)
    (hob : ∀ x ∈ fs, ∀ o, ops[x.1]? = some o → ∀ (a : Act) (w : World), (execOp a.eval o).run P w = .ok (.value (ptrB w.heap.size)) (w.alloc x.2.2))
    (h : wpFp P ops Q w.drew fs tp pl a (fun _ => True)) : (Code.region id ops true).wp P Q a w := by
  simp only [Bool.and_eq_true, beq_iff_eq] at hok
  obtain ⟨⟨⟨h1, h2⟩, h3⟩, h4⟩ := hok
  have hF := FOk.of h1
  refine wp_region_any hm (wpAny_of_U (S := Ext w.drew) (tl := tl) (pu := pu) _ _ _ _ ?_)
  have hnone : ∀ (fs' : List FL), np fs' (fun _ => none) = fs'.length := fun fs' => by
    unfold np; rw [List.countP_eq_length.2]; intro x hx; rfl
  have hput : ∀ (fs' : List FL) (a : Act), putF fs' (fun _ => none) a = a := fun fs' a => by
    induction fs' with
    | nil => rfl
    | cons x fs' ih => unfold putF; exact ih
  have hlF : ∀ (fs' : List FL) (l : Array Bool), l.size = ops.size → (∀ x ∈ fs', x.1 < ops.size) → (fs'.foldl (fun l x => l.setIfInBounds x.1 true) l).size = ops.size ∧ (∀ j : Nat, j ∉ fs'.map (·.1) → (fs'.foldl (fun l x => l.setIfInBounds x.1 true) l)[j]? = l[j]?) ∧
      (∀ x ∈ fs', (fs'.foldl (fun l x => l.setIfInBounds x.1 true) l)[x.1]? = some true) ∧ (∀ j : Nat, l[j]? = some true → (fs'.foldl (fun l x => l.setIfInBounds x.1 true) l)[j]? = some true) := by
    intro fs'
    induction fs' with
    | nil => intro l hl _; exact ⟨hl, fun _ _ => rfl, fun x hx => (by cases hx), fun _ h => h⟩
    | cons y fs' ih =>
      intro l hl hlt
      obtain ⟨i1, i2, i3, i4⟩ := ih (l.setIfInBounds y.1 true) (by simp [hl]) (fun x hx => hlt x (by simp [hx]))
      have hy : (l.setIfInBounds y.1 true)[y.1]? = some true := by
        have := hlt y (by simp)
        simp [hl, this]
      refine ⟨i1, fun j hj => ?_, fun x hx => ?_, fun j hj => ?_⟩
      · simp only [List.map_cons, List.mem_cons, not_or] at hj
        rw [List.foldl_cons, i2 j hj.2, Array.getElem?_setIfInBounds_ne (fun e => hj.1 e.symm)]
      · rcases List.mem_cons.1 hx with rfl | hx'
        · exact i4 _ hy
        · exact i3 x hx'
      · refine i4 j ?_
        by_cases e : y.1 = j
        · rw [← e]; exact hy
        · rw [Array.getElem?_setIfInBounds_ne e]; exact hj
  obtain ⟨l1, l2, l3, _⟩ := hlF fs (Array.replicate ops.size false) (by simp) (fun x hx => by
    obtain ⟨o, ho, _⟩ := hF.fl x hx
    exact (Array.getElem?_eq_some_iff.1 ho).1)
  have key := wpFp_sound (P := P) (Q := Q) (W0 := w.drew) (tp := tp) (pu := pu) hF hsel hQ hQ' hob (pl.length + fs.length) pl (Array.replicate ops.size false) _ (fun _ => none) a (fun _ => True) w.drew (by rw [hnone]) ⟨by rw [l1]; simp, fun j hj => (l2 j hj).symm, fun x hx => ⟨?_, l3 x hx⟩⟩ h2 h3 (Ext.refl _) (fun _ _ _ _ => trivial) trivial (fun x _ b hb => by cases hb) (fun x _ y _ b hb => by cases hb) h
  · rw [hput, h4] at key
    exact key
  · obtain ⟨o, ho, _⟩ := hF.fl x hx
    have := (Array.getElem?_eq_some_iff.1 ho).1
    simp [this]
variable {W0 : World} {fs : List FL} {tp : List Nat} {a : Act} {E : World → Prop} {i : Nat} {rest : List (Nat × Nat)} {o : Oper}
theorem wpFp_read {v : Value} (hi : ops.toList[i]? = some o) (hw : Region.wanted o (yielded ops a.tmps) = true) (h : ∀ w, Ext W0 w → (execOp a.eval o).run P w = .ok (.value v) w) (k : wpFp P ops Q W0 fs tp rest (a.put o.dst v) E) :
    wpFp P ops Q W0 fs tp ((i, 0) :: rest) a E := ⟨o, v, by simpa using hi, .inl ⟨hw, h⟩, k⟩
theorem wpFp_pure {v : Value} (hi : ops.toList[i]? = some o) (hw : Region.wanted o (yielded ops a.tmps) = true) (h : ∀ w, (execOp a.eval o).run P w = .ok (.value v) w) (k : wpFp P ops Q W0 fs tp rest (a.put o.dst v) E) :
    wpFp P ops Q W0 fs tp ((i, 2) :: rest) a E := ⟨o, v, by simpa using hi, .inl ⟨hw, fun w _ => h w⟩, k⟩
theorem wpFp_eff (hi : ops.toList[i]? = some o) (hw : Region.wanted o (yielded ops a.tmps) = true)
    (h : ∀ w, Ext W0 w → E w → ∀ K : Act → World → Prop, (∀ a' w' (E' : World → Prop), Ext w w' → (∀ w1 w2, Ext w1 w2 → E' w1 → E' w2) → E' w' → wpFp P ops Q W0 fs tp rest a' E' → K a' w') → o.wp P a w K Q) :
    wpFp P ops Q W0 fs tp ((i, 1) :: rest) a E := by
  have hi' : ops[i]? = some o := by simpa using hi
  intro w hX hE
  unfold wpOp
  simp only [hi', hw, if_true]
  exact .inl (h w hX hE _ fun a' w' E' h1 h2 h3 h4 => ⟨h1, E', h2, h3, h4⟩)
/-- One new variable: the world behind the others. -/
theorem wpFp_one {i t : Nat} {ob : Obj} (h : ∀ os1 d1 os2 d2, E (more ((more W0 os1 d1).alloc ob) os2 d2) → wpTl P ops Q tp (a.put (some t) (.pointer (some ⟨W0.heap.size + os1.size, 0, none⟩))) (more ((more W0 os1 d1).alloc ob) os2 d2)) :
    wpFp P ops Q W0 [(i, t, ob)] tp [] a E := by
  intro β w hX hE hb _
  obtain ⟨b, hb1, hb2, hb3⟩ := hb _ (List.mem_singleton.2 rfl)
  obtain ⟨os, d, rfl⟩ := hX.more
  obtain ⟨k, rfl⟩ : ∃ k, b = W0.heap.size + k := ⟨b - W0.heap.size, by omega⟩
  have hk : os[k]? = some ob := by
    have : (W0.heap ++ os)[W0.heap.size + k]? = some ob := hb2
    rw [Array.getElem?_append_right (by omega)] at this
    simpa using this
  have hklt : k < os.size := (Array.getElem?_eq_some_iff.1 hk).1
  have hos : os = (os.extract 0 k).push ob ++ os.extract (k + 1) os.size := by
    apply Array.ext_getElem?
    intro j
    have hs : (os.extract 0 k).size = k := by simp; omega
    rcases Nat.lt_trichotomy j k with hj | rfl | hj
    · rw [Array.getElem?_append_left (by simp; omega), Array.getElem?_push, if_neg (by omega), Array.getElem?_extract]
      simp
      omega
    · rw [Array.getElem?_append_left (by simp; omega), Array.getElem?_push, if_pos (by omega)]; exact hk
    · rw [Array.getElem?_append_right (by simp; omega), Array.getElem?_extract]
      by_cases h2 : j < os.size
      · rw [if_pos (by simp; omega)]
        congr 1
        simp
        omega
      · rw [if_neg (by simp; omega), Array.getElem?_eq_none (by omega)]
  have hw : more W0 os d = more ((more W0 (os.extract 0 k) d).alloc ob) (os.extract (k + 1) os.size) d := by
    simp only [more, World.alloc]
    congr 1
    conv => lhs; rw [hos]
    simp
  have hsz : (os.extract 0 k).size = k := by simp; omega
  have := h (os.extract 0 k) d (os.extract (k + 1) os.size) d (by rw [← hw]; exact hE)
  rw [← hw, hsz] at this
  have hp : putF [(i, t, ob)] β a = a.put (some t) (ptrB (W0.heap.size + k)) := by
    unfold putF
    rw [hb1]
    rfl
  rw [hp]
  exact this
/-- No new variable. -/
theorem wpFp_zero (h : ∀ os d, E (more W0 os d) → wpTl P ops Q tp a (more W0 os d)) : wpFp P ops Q W0 [] tp [] a E := by
  intro β w hX hE hb _
  obtain ⟨os, d, rfl⟩ := hX.more
  exact h os d hE
end
end Go.Proofs.YtkcoikelcmpceaaGreatDoor
namespace Go.Proofs.YtkcoikelcmpceaaGreatDoor
open Go.RowKit NM
theorem z64 : I64 0 := by unfold I64; omega
set_option maxHeartbeats 800000 in
theorem beside_any (k m ex f k' m' ex' f' : Int) (t t' : ByteArray) (b b' : Bool) (w : World) (y : Val) (hy : besideV ⟨k, m, ex, t, b, f⟩ ⟨k', m', ex', t', b', f'⟩ = y) :
    Calls Tryz.prog 211 #[VV k m ex t b f, VV k' m' ex' t' b' f'] w fun e w' => e = .returned (VV y.kind y.mant y.exp y.text y.truth y.fault) ∧ Ext w w' := by
  by_cases h0 : k = 0
  · have q0 : (k != 0) = false := by simp [h0]
    by_cases h1 : k' = 1 ∨ k' = 2 ∨ k' = 3
    · have e : y = Val.only k' := by rw [← hy]; simp [besideV, h0, h1]
      subst e
      clear hy
      rcases h1 with rfl | rfl | rfl
      · go_enter Tryz.func211, Tryz.ntmps211
        go_wp2_with fail
        exact bodyPost_ret (v := VV 1 0 0 ⟨#[]⟩ false 0) (by simp [results, Tryz.results211, go_sem]) rfl ⟨rfl, by with_reducible repeat (first | exact Ext.refl _ | apply Ext.drew | apply Ext.alloc | apply Ext.more_)⟩
      · go_enter Tryz.func211, Tryz.ntmps211
        go_wp2_with fail
        exact bodyPost_ret (v := VV 2 0 0 ⟨#[]⟩ false 0) (by simp [results, Tryz.results211, go_sem]) rfl ⟨rfl, by with_reducible repeat (first | exact Ext.refl _ | apply Ext.drew | apply Ext.alloc | apply Ext.more_)⟩
      · go_enter Tryz.func211, Tryz.ntmps211
        go_wp2_with fail
        exact bodyPost_ret (v := VV 3 0 0 ⟨#[]⟩ false 0) (by simp [results, Tryz.results211, go_sem]) rfl ⟨rfl, by with_reducible repeat (first | exact Ext.refl _ | apply Ext.drew | apply Ext.alloc | apply Ext.more_)⟩
    · have e : y = ⟨k, m, ex, t, b, f⟩ := by rw [← hy]; simp [besideV, h0, h1]
      subst e
      have q1 : (k' == 1) = false := by simp; omega
      have q2 : (k' == 2) = false := by simp; omega
      have q3 : (k' == 3) = false := by simp; omega
      subst h0
      clear hy h1
      go_enter Tryz.func211, Tryz.ntmps211
      go_wp2_with fail
      exact bodyPost_ret (v := VV 0 m ex t b f) (by simp [results, Tryz.results211, go_sem]) rfl ⟨rfl, by with_reducible repeat (first | exact Ext.refl _ | apply Ext.drew | apply Ext.alloc | apply Ext.more_)⟩
  · have e : y = ⟨k, m, ex, t, b, f⟩ := by rw [← hy]; simp [besideV, h0]
    subst e
    have q0 : (k != 0) = true := by simp [h0]
    clear hy
    go_enter Tryz.func211, Tryz.ntmps211
    go_wp2_with fail
    exact bodyPost_ret (v := VV k m ex t b f) (by simp [results, Tryz.results211, go_sem]) rfl ⟨rfl, by with_reducible repeat (first | exact Ext.refl _ | apply Ext.drew | apply Ext.alloc | apply Ext.more_)⟩
theorem truthOrder_any (a b : Bool) (w : World) :
    Calls Tryz.prog 213 #[.bool a, .bool b] w fun e w' => e = .returned (.int .i64 (sgB a b)) ∧ Ext w w' := by
  cases a <;> cases b
  all_goals
    go_enter Tryz.func213, Tryz.ntmps213
    go_wp2_with fail
    go_ret
    exact ⟨rfl, Ext.refl _⟩
theorem compare_any (a b : ByteArray) (w : World) :
    Calls Tryz.prog 212 #[.string a, .string b] w fun e w' => e = .returned (.int .i64 (Lib.compareBytes (tl a) (tl b))) ∧ Ext w w' :=
  (Tryz.strings_Compare a b w).mono fun e w' ⟨h1, h2⟩ => ⟨h1, by rw [h2]; exact Ext.refl _⟩
set_option maxHeartbeats 1000000 in
theorem vcmp_any (a b : Val) (w : World) (ha : a.ok) (hb : b.ok) :
    Calls Tryz.prog 189 #[VV a.kind a.mant a.exp a.text a.truth a.fault, VV b.kind b.mant b.exp b.text b.truth b.fault] w fun e w' => e = .returned (.int .i64 (cmpV a b)) ∧ Ext w w' := by
  have hA : (besideV a b).ok := by
    unfold besideV
    split
    · exact ha
    · split
      · exact ⟨hb.1, z64, z64, Nat.zero_le _, z64⟩
      · exact ha
  have hB : (besideV b a).ok := by
    unfold besideV
    split
    · exact hb
    · split
      · exact ⟨ha.1, z64, z64, Nat.zero_le _, z64⟩
      · exact hb
  have h1 := fun W => beside_any a.kind a.mant a.exp a.fault b.kind b.mant b.exp b.fault a.text b.text a.truth b.truth W (besideV a b) rfl
  have h2 := fun W => beside_any b.kind b.mant b.exp b.fault a.kind a.mant a.exp a.fault b.text a.text b.truth a.truth W (besideV b a) rfl
  unfold cmpV
  generalize besideV a b = A at *
  generalize besideV b a = B at *
  obtain ⟨k, m, ex, t, u, f⟩ := A
  obtain ⟨k', m', ex', t', u', f'⟩ := B
  obtain ⟨_, hm, _, ht, _⟩ := hA
  obtain ⟨_, hm', _, ht', _⟩ := hB
  simp only at h1 h2 hm ht hm' ht'
  unfold cmpK
  simp only
  clear ha hb
  by_cases hk : k = k'
  · subst hk
    rw [if_neg (show ¬ (k ≠ k) from fun h => h rfl)]
    have q0 : (k != k) = false := by simp
    by_cases k1 : k = 1
    · rw [if_pos k1]
      subst k1
      go_enter Tryz.func189, Tryz.ntmps189
      go_upto_region 1 with fail
      refine wp_float [] [(0, 0), (1, 0), (3, 0), (4, 0), (2, 1), (5, 1)] [6, 7] [6, 7] [] (by kernel_rfl) (by kernel_rfl) (by kernel_rfl) (fun _ _ d _ _ h => by cases d <;> exact h) (fun _ _ d _ _ h => by cases d <;> exact h) (fun x hx => by cases hx) ?_
      iterate 4 ((refine wpFp_read (v := ?_) rfl ?_ (fun w1 h1 => ?_) ?_; rotate_left 1; rfl; (obtain ⟨os1, d1, rfl⟩ := h1.more; go_simp; first | done | rfl)); try simp only [Act.put, zqA, zqB, zqC])
      (refine wpFp_eff rfl ?_ (fun wf hXf hE K hK => ?_); rfl; obtain ⟨osf, df, rfl⟩ := hXf.more; go_simp; refine (h1 _).mono ?_; rintro e w' ⟨rfl, hb⟩; refine hK _ _ (fun _ => True) (by (try simp only [more_drew, more_more]); exact hb) (fun _ _ _ _ => trivial) trivial ?_)
      try simp only [Act.put, zqA, zqB, zqC]
      (refine wpFp_eff rfl ?_ (fun wf hXf hE K hK => ?_); rfl; obtain ⟨osf, df, rfl⟩ := hXf.more; go_simp; refine (h2 _).mono ?_; rintro e w' ⟨rfl, hb⟩; refine hK _ _ (fun _ => True) (by (try simp only [more_drew, more_more]); exact hb) (fun _ _ _ _ => trivial) trivial ?_)
      try simp only [Act.put, zqA, zqB, zqC]
      refine wpFp_zero fun osa da hE => ?_
      try simp only [Act.put, zqA, zqB, zqC]
      iterate 2 ((refine wpTl_op rfl ?_ (fun K hK => ?_); rfl; go_simp; refine hK _ _ ?_); try simp only [Act.put, zqA, zqB, zqC])
      refine wpTl_nil ?_
      go_wp2_with (go_at_call 52; refine (cmp_any _ _ _ _ _ (by assumption) (by assumption)).mono ?_; rintro e w' ⟨rfl, hb⟩; obtain ⟨os5, d5, rfl⟩ := hb.more; clear hb)
      go_ret
      exact ⟨rfl, by with_reducible repeat (first | exact Ext.refl _ | apply Ext.drew | apply Ext.alloc | apply Ext.more_)⟩
    · rw [if_neg k1]
      by_cases k2 : k = 2
      · rw [if_pos k2]
        subst k2
        go_enter Tryz.func189, Tryz.ntmps189
        go_upto_region 1 with fail
        refine wp_float [] [(0, 0), (1, 0), (3, 0), (4, 0), (2, 1), (5, 1)] [6, 7] [6, 7] [] (by kernel_rfl) (by kernel_rfl) (by kernel_rfl) (fun _ _ d _ _ h => by cases d <;> exact h) (fun _ _ d _ _ h => by cases d <;> exact h) (fun x hx => by cases hx) ?_
        iterate 4 ((refine wpFp_read (v := ?_) rfl ?_ (fun w1 h1 => ?_) ?_; rotate_left 1; rfl; (obtain ⟨os1, d1, rfl⟩ := h1.more; go_simp; first | done | rfl)); try simp only [Act.put, zqA, zqB, zqC])
        (refine wpFp_eff rfl ?_ (fun wf hXf hE K hK => ?_); rfl; obtain ⟨osf, df, rfl⟩ := hXf.more; go_simp; refine (h1 _).mono ?_; rintro e w' ⟨rfl, hb⟩; refine hK _ _ (fun _ => True) (by (try simp only [more_drew, more_more]); exact hb) (fun _ _ _ _ => trivial) trivial ?_)
        try simp only [Act.put, zqA, zqB, zqC]
        (refine wpFp_eff rfl ?_ (fun wf hXf hE K hK => ?_); rfl; obtain ⟨osf, df, rfl⟩ := hXf.more; go_simp; refine (h2 _).mono ?_; rintro e w' ⟨rfl, hb⟩; refine hK _ _ (fun _ => True) (by (try simp only [more_drew, more_more]); exact hb) (fun _ _ _ _ => trivial) trivial ?_)
        try simp only [Act.put, zqA, zqB, zqC]
        refine wpFp_zero fun osa da hE => ?_
        try simp only [Act.put, zqA, zqB, zqC]
        iterate 2 ((refine wpTl_op rfl ?_ (fun K hK => ?_); rfl; go_simp; refine hK _ _ ?_); try simp only [Act.put, zqA, zqB, zqC])
        refine wpTl_nil ?_
        go_upto_region 10 with fail
        refine wp_plan (S := Ext _) [(0, 0), (1, 0), (3, 0), (4, 0), (2, 1), (5, 1), (6, 1), (7, 0)] [] (by kernel_rfl) (by kernel_rfl) (by kernel_rfl) (fun _ _ d _ _ h => by cases d <;> exact h) (Ext.drew (Ext.refl _)) ?_
        iterate 4 ((refine wpPl_read (v := ?_) rfl ?_ (fun _ h => ?_) ?_; rotate_left 1; rfl; (obtain ⟨_, _, rfl⟩ := h.more; go_simp; try rfl)); try simp only [Act.put, zqA, zqB, zqC])
        (refine wpPl_eff rfl ?_ (fun K hK => ?_); rfl; go_simp; refine (fold_any _ _ (by assumption)).mono ?_; rintro e w' ⟨rfl, hb⟩; obtain ⟨os5, d5, rfl⟩ := hb.more; clear hb; refine hK _ _ ?_ ?_; (repeat (first | (with_reducible (first | exact Ext.refl _ | exact ext_d _ _ _ _ | exact ext_app _ _ _ _ _ | exact ext_app2 _ _ _ _ _ _ | exact ext_app3 _ _ _ _ _ _ _ | exact ext_app4 _ _ _ _ _ _ _ _ | exact ext_app5 _ _ _ _ _ _ _ _ _)) | ((with_reducible refine ext_suffix ⟨_, ?_⟩); (try simp only [Array.append_assoc]); rfl) | (with_reducible (first | apply Ext.drew | apply Ext.alloc | apply Ext.more_)) | apply Ext.drew | apply Ext.alloc | apply Ext.more_)))
        try simp only [Act.put, zqA, zqB, zqC]
        (refine wpPl_eff rfl ?_ (fun K hK => ?_); rfl; go_simp; refine (fold_any _ _ (by assumption)).mono ?_; rintro e w' ⟨rfl, hb⟩; obtain ⟨os6, d6, rfl⟩ := hb.more; clear hb; refine hK _ _ ?_ ?_; (repeat (first | (with_reducible (first | exact Ext.refl _ | exact ext_d _ _ _ _ | exact ext_app _ _ _ _ _ | exact ext_app2 _ _ _ _ _ _ | exact ext_app3 _ _ _ _ _ _ _ | exact ext_app4 _ _ _ _ _ _ _ _ | exact ext_app5 _ _ _ _ _ _ _ _ _)) | ((with_reducible refine ext_suffix ⟨_, ?_⟩); (try simp only [Array.append_assoc]); rfl) | (with_reducible (first | apply Ext.drew | apply Ext.alloc | apply Ext.more_)) | apply Ext.drew | apply Ext.alloc | apply Ext.more_)))
        try simp only [Act.put, zqA, zqB, zqC]
        (refine wpPl_eff rfl ?_ (fun K hK => ?_); rfl; go_simp; refine (compare_any _ _ _).mono ?_; rintro e w' ⟨rfl, hb⟩; obtain ⟨os7, d7, rfl⟩ := hb.more; clear hb; refine hK _ _ ?_ ?_; (repeat (first | (with_reducible (first | exact Ext.refl _ | exact ext_d _ _ _ _ | exact ext_app _ _ _ _ _ | exact ext_app2 _ _ _ _ _ _ | exact ext_app3 _ _ _ _ _ _ _ | exact ext_app4 _ _ _ _ _ _ _ _ | exact ext_app5 _ _ _ _ _ _ _ _ _)) | ((with_reducible refine ext_suffix ⟨_, ?_⟩); (try simp only [Array.append_assoc]); rfl) | (with_reducible (first | apply Ext.drew | apply Ext.alloc | apply Ext.more_)) | apply Ext.drew | apply Ext.alloc | apply Ext.more_)))
        try simp only [Act.put, zqA, zqB, zqC]
        (refine wpPl_read (v := ?_) rfl ?_ (fun _ h => ?_) ?_; rotate_left 1; rfl; (obtain ⟨_, _, rfl⟩ := h.more; go_simp; try rfl))
        try simp only [Act.put, zqA, zqB, zqC]
        refine wpPl_nil ?_
        go_wp2_with fail
        go_ret
        exact ⟨rfl, by with_reducible repeat (first | exact Ext.refl _ | apply Ext.drew | apply Ext.alloc | apply Ext.more_)⟩
      · rw [if_neg k2]
        by_cases k3 : k = 3
        · rw [if_pos k3]
          subst k3
          go_enter Tryz.func189, Tryz.ntmps189
          go_upto_region 1 with fail
          refine wp_float [] [(0, 0), (1, 0), (3, 0), (4, 0), (2, 1), (5, 1)] [6, 7] [6, 7] [] (by kernel_rfl) (by kernel_rfl) (by kernel_rfl) (fun _ _ d _ _ h => by cases d <;> exact h) (fun _ _ d _ _ h => by cases d <;> exact h) (fun x hx => by cases hx) ?_
          iterate 4 ((refine wpFp_read (v := ?_) rfl ?_ (fun w1 h1 => ?_) ?_; rotate_left 1; rfl; (obtain ⟨os1, d1, rfl⟩ := h1.more; go_simp; first | done | rfl)); try simp only [Act.put, zqA, zqB, zqC])
          (refine wpFp_eff rfl ?_ (fun wf hXf hE K hK => ?_); rfl; obtain ⟨osf, df, rfl⟩ := hXf.more; go_simp; refine (h1 _).mono ?_; rintro e w' ⟨rfl, hb⟩; refine hK _ _ (fun _ => True) (by (try simp only [more_drew, more_more]); exact hb) (fun _ _ _ _ => trivial) trivial ?_)
          try simp only [Act.put, zqA, zqB, zqC]
          (refine wpFp_eff rfl ?_ (fun wf hXf hE K hK => ?_); rfl; obtain ⟨osf, df, rfl⟩ := hXf.more; go_simp; refine (h2 _).mono ?_; rintro e w' ⟨rfl, hb⟩; refine hK _ _ (fun _ => True) (by (try simp only [more_drew, more_more]); exact hb) (fun _ _ _ _ => trivial) trivial ?_)
          try simp only [Act.put, zqA, zqB, zqC]
          refine wpFp_zero fun osa da hE => ?_
          try simp only [Act.put, zqA, zqB, zqC]
          iterate 2 ((refine wpTl_op rfl ?_ (fun K hK => ?_); rfl; go_simp; refine hK _ _ ?_); try simp only [Act.put, zqA, zqB, zqC])
          refine wpTl_nil ?_
          go_wp2_with (go_at_call 213; refine (truthOrder_any _ _ _).mono ?_; rintro e w' ⟨rfl, hb⟩; obtain ⟨os5, d5, rfl⟩ := hb.more; clear hb)
          go_ret
          exact ⟨rfl, by with_reducible repeat (first | exact Ext.refl _ | apply Ext.drew | apply Ext.alloc | apply Ext.more_)⟩
        · rw [if_neg k3]
          by_cases k4 : k = 4
          · rw [if_pos k4]
            subst k4
            unfold sgI
            by_cases hl : f < f'
            · rw [if_pos hl]
              go_enter Tryz.func189, Tryz.ntmps189
              go_upto_region 1 with fail
              refine wp_float [] [(0, 0), (1, 0), (3, 0), (4, 0), (2, 1), (5, 1)] [6, 7] [6, 7] [] (by kernel_rfl) (by kernel_rfl) (by kernel_rfl) (fun _ _ d _ _ h => by cases d <;> exact h) (fun _ _ d _ _ h => by cases d <;> exact h) (fun x hx => by cases hx) ?_
              iterate 4 ((refine wpFp_read (v := ?_) rfl ?_ (fun w1 h1 => ?_) ?_; rotate_left 1; rfl; (obtain ⟨os1, d1, rfl⟩ := h1.more; go_simp; first | done | rfl)); try simp only [Act.put, zqA, zqB, zqC])
              (refine wpFp_eff rfl ?_ (fun wf hXf hE K hK => ?_); rfl; obtain ⟨osf, df, rfl⟩ := hXf.more; go_simp; refine (h1 _).mono ?_; rintro e w' ⟨rfl, hb⟩; refine hK _ _ (fun _ => True) (by (try simp only [more_drew, more_more]); exact hb) (fun _ _ _ _ => trivial) trivial ?_)
              try simp only [Act.put, zqA, zqB, zqC]
              (refine wpFp_eff rfl ?_ (fun wf hXf hE K hK => ?_); rfl; obtain ⟨osf, df, rfl⟩ := hXf.more; go_simp; refine (h2 _).mono ?_; rintro e w' ⟨rfl, hb⟩; refine hK _ _ (fun _ => True) (by (try simp only [more_drew, more_more]); exact hb) (fun _ _ _ _ => trivial) trivial ?_)
              try simp only [Act.put, zqA, zqB, zqC]
              refine wpFp_zero fun osa da hE => ?_
              try simp only [Act.put, zqA, zqB, zqC]
              iterate 2 ((refine wpTl_op rfl ?_ (fun K hK => ?_); rfl; go_simp; refine hK _ _ ?_); try simp only [Act.put, zqA, zqB, zqC])
              refine wpTl_nil ?_
              go_wp2_with fail
              go_ret
              exact ⟨rfl, by with_reducible repeat (first | exact Ext.refl _ | apply Ext.drew | apply Ext.alloc | apply Ext.more_)⟩
            · rw [if_neg hl]
              by_cases hg : f' < f
              · rw [if_pos hg]
                go_enter Tryz.func189, Tryz.ntmps189
                go_upto_region 1 with fail
                refine wp_float [] [(0, 0), (1, 0), (3, 0), (4, 0), (2, 1), (5, 1)] [6, 7] [6, 7] [] (by kernel_rfl) (by kernel_rfl) (by kernel_rfl) (fun _ _ d _ _ h => by cases d <;> exact h) (fun _ _ d _ _ h => by cases d <;> exact h) (fun x hx => by cases hx) ?_
                iterate 4 ((refine wpFp_read (v := ?_) rfl ?_ (fun w1 h1 => ?_) ?_; rotate_left 1; rfl; (obtain ⟨os1, d1, rfl⟩ := h1.more; go_simp; first | done | rfl)); try simp only [Act.put, zqA, zqB, zqC])
                (refine wpFp_eff rfl ?_ (fun wf hXf hE K hK => ?_); rfl; obtain ⟨osf, df, rfl⟩ := hXf.more; go_simp; refine (h1 _).mono ?_; rintro e w' ⟨rfl, hb⟩; refine hK _ _ (fun _ => True) (by (try simp only [more_drew, more_more]); exact hb) (fun _ _ _ _ => trivial) trivial ?_)
                try simp only [Act.put, zqA, zqB, zqC]
                (refine wpFp_eff rfl ?_ (fun wf hXf hE K hK => ?_); rfl; obtain ⟨osf, df, rfl⟩ := hXf.more; go_simp; refine (h2 _).mono ?_; rintro e w' ⟨rfl, hb⟩; refine hK _ _ (fun _ => True) (by (try simp only [more_drew, more_more]); exact hb) (fun _ _ _ _ => trivial) trivial ?_)
                try simp only [Act.put, zqA, zqB, zqC]
                refine wpFp_zero fun osa da hE => ?_
                try simp only [Act.put, zqA, zqB, zqC]
                iterate 2 ((refine wpTl_op rfl ?_ (fun K hK => ?_); rfl; go_simp; refine hK _ _ ?_); try simp only [Act.put, zqA, zqB, zqC])
                refine wpTl_nil ?_
                go_wp2_with fail
                go_ret
                exact ⟨rfl, by with_reducible repeat (first | exact Ext.refl _ | apply Ext.drew | apply Ext.alloc | apply Ext.more_)⟩
              · rw [if_neg hg]
                go_enter Tryz.func189, Tryz.ntmps189
                go_upto_region 1 with fail
                refine wp_float [] [(0, 0), (1, 0), (3, 0), (4, 0), (2, 1), (5, 1)] [6, 7] [6, 7] [] (by kernel_rfl) (by kernel_rfl) (by kernel_rfl) (fun _ _ d _ _ h => by cases d <;> exact h) (fun _ _ d _ _ h => by cases d <;> exact h) (fun x hx => by cases hx) ?_
                iterate 4 ((refine wpFp_read (v := ?_) rfl ?_ (fun w1 h1 => ?_) ?_; rotate_left 1; rfl; (obtain ⟨os1, d1, rfl⟩ := h1.more; go_simp; first | done | rfl)); try simp only [Act.put, zqA, zqB, zqC])
                (refine wpFp_eff rfl ?_ (fun wf hXf hE K hK => ?_); rfl; obtain ⟨osf, df, rfl⟩ := hXf.more; go_simp; refine (h1 _).mono ?_; rintro e w' ⟨rfl, hb⟩; refine hK _ _ (fun _ => True) (by (try simp only [more_drew, more_more]); exact hb) (fun _ _ _ _ => trivial) trivial ?_)
                try simp only [Act.put, zqA, zqB, zqC]
                (refine wpFp_eff rfl ?_ (fun wf hXf hE K hK => ?_); rfl; obtain ⟨osf, df, rfl⟩ := hXf.more; go_simp; refine (h2 _).mono ?_; rintro e w' ⟨rfl, hb⟩; refine hK _ _ (fun _ => True) (by (try simp only [more_drew, more_more]); exact hb) (fun _ _ _ _ => trivial) trivial ?_)
                try simp only [Act.put, zqA, zqB, zqC]
                refine wpFp_zero fun osa da hE => ?_
                try simp only [Act.put, zqA, zqB, zqC]
                iterate 2 ((refine wpTl_op rfl ?_ (fun K hK => ?_); rfl; go_simp; refine hK _ _ ?_); try simp only [Act.put, zqA, zqB, zqC])
                refine wpTl_nil ?_
                go_wp2_with fail
                go_ret
                exact ⟨rfl, by with_reducible repeat (first | exact Ext.refl _ | apply Ext.drew | apply Ext.alloc | apply Ext.more_)⟩
          · rw [if_neg k4]
            have q1 : (k == 1) = false := by simp [k1]
            have q2 : (k == 2) = false := by simp [k2]
            have q3 : (k == 3) = false := by simp [k3]
            have q4 : (k == 4) = false := by simp [k4]
            clear k1 k2 k3 k4
            go_enter Tryz.func189, Tryz.ntmps189
            go_upto_region 1 with fail
            refine wp_float [] [(0, 0), (1, 0), (3, 0), (4, 0), (2, 1), (5, 1)] [6, 7] [6, 7] [] (by kernel_rfl) (by kernel_rfl) (by kernel_rfl) (fun _ _ d _ _ h => by cases d <;> exact h) (fun _ _ d _ _ h => by cases d <;> exact h) (fun x hx => by cases hx) ?_
            iterate 4 ((refine wpFp_read (v := ?_) rfl ?_ (fun w1 h1 => ?_) ?_; rotate_left 1; rfl; (obtain ⟨os1, d1, rfl⟩ := h1.more; go_simp; first | done | rfl)); try simp only [Act.put, zqA, zqB, zqC])
            (refine wpFp_eff rfl ?_ (fun wf hXf hE K hK => ?_); rfl; obtain ⟨osf, df, rfl⟩ := hXf.more; go_simp; refine (h1 _).mono ?_; rintro e w' ⟨rfl, hb⟩; refine hK _ _ (fun _ => True) (by (try simp only [more_drew, more_more]); exact hb) (fun _ _ _ _ => trivial) trivial ?_)
            try simp only [Act.put, zqA, zqB, zqC]
            (refine wpFp_eff rfl ?_ (fun wf hXf hE K hK => ?_); rfl; obtain ⟨osf, df, rfl⟩ := hXf.more; go_simp; refine (h2 _).mono ?_; rintro e w' ⟨rfl, hb⟩; refine hK _ _ (fun _ => True) (by (try simp only [more_drew, more_more]); exact hb) (fun _ _ _ _ => trivial) trivial ?_)
            try simp only [Act.put, zqA, zqB, zqC]
            refine wpFp_zero fun osa da hE => ?_
            try simp only [Act.put, zqA, zqB, zqC]
            iterate 2 ((refine wpTl_op rfl ?_ (fun K hK => ?_); rfl; go_simp; refine hK _ _ ?_); try simp only [Act.put, zqA, zqB, zqC])
            refine wpTl_nil ?_
            go_wp2_with fail
            go_ret
            exact ⟨rfl, by with_reducible repeat (first | exact Ext.refl _ | apply Ext.drew | apply Ext.alloc | apply Ext.more_)⟩
  · rw [if_pos (show k ≠ k' from hk)]
    have q0 : (k != k') = true := by simpa using hk
    by_cases hl : k < k'
    · rw [if_pos hl]
      go_enter Tryz.func189, Tryz.ntmps189
      go_upto_region 1 with fail
      refine wp_float [] [(0, 0), (1, 0), (3, 0), (4, 0), (2, 1), (5, 1)] [6, 7] [6, 7] [] (by kernel_rfl) (by kernel_rfl) (by kernel_rfl) (fun _ _ d _ _ h => by cases d <;> exact h) (fun _ _ d _ _ h => by cases d <;> exact h) (fun x hx => by cases hx) ?_
      iterate 4 ((refine wpFp_read (v := ?_) rfl ?_ (fun w1 h1 => ?_) ?_; rotate_left 1; rfl; (obtain ⟨os1, d1, rfl⟩ := h1.more; go_simp; first | done | rfl)); try simp only [Act.put, zqA, zqB, zqC])
      (refine wpFp_eff rfl ?_ (fun wf hXf hE K hK => ?_); rfl; obtain ⟨osf, df, rfl⟩ := hXf.more; go_simp; refine (h1 _).mono ?_; rintro e w' ⟨rfl, hb⟩; refine hK _ _ (fun _ => True) (by (try simp only [more_drew, more_more]); exact hb) (fun _ _ _ _ => trivial) trivial ?_)
      try simp only [Act.put, zqA, zqB, zqC]
      (refine wpFp_eff rfl ?_ (fun wf hXf hE K hK => ?_); rfl; obtain ⟨osf, df, rfl⟩ := hXf.more; go_simp; refine (h2 _).mono ?_; rintro e w' ⟨rfl, hb⟩; refine hK _ _ (fun _ => True) (by (try simp only [more_drew, more_more]); exact hb) (fun _ _ _ _ => trivial) trivial ?_)
      try simp only [Act.put, zqA, zqB, zqC]
      refine wpFp_zero fun osa da hE => ?_
      try simp only [Act.put, zqA, zqB, zqC]
      iterate 2 ((refine wpTl_op rfl ?_ (fun K hK => ?_); rfl; go_simp; refine hK _ _ ?_); try simp only [Act.put, zqA, zqB, zqC])
      refine wpTl_nil ?_
      go_wp2_with fail
      go_ret
      exact ⟨rfl, by with_reducible repeat (first | exact Ext.refl _ | apply Ext.drew | apply Ext.alloc | apply Ext.more_)⟩
    · rw [if_neg hl]
      go_enter Tryz.func189, Tryz.ntmps189
      go_upto_region 1 with fail
      refine wp_float [] [(0, 0), (1, 0), (3, 0), (4, 0), (2, 1), (5, 1)] [6, 7] [6, 7] [] (by kernel_rfl) (by kernel_rfl) (by kernel_rfl) (fun _ _ d _ _ h => by cases d <;> exact h) (fun _ _ d _ _ h => by cases d <;> exact h) (fun x hx => by cases hx) ?_
      iterate 4 ((refine wpFp_read (v := ?_) rfl ?_ (fun w1 h1 => ?_) ?_; rotate_left 1; rfl; (obtain ⟨os1, d1, rfl⟩ := h1.more; go_simp; first | done | rfl)); try simp only [Act.put, zqA, zqB, zqC])
      (refine wpFp_eff rfl ?_ (fun wf hXf hE K hK => ?_); rfl; obtain ⟨osf, df, rfl⟩ := hXf.more; go_simp; refine (h1 _).mono ?_; rintro e w' ⟨rfl, hb⟩; refine hK _ _ (fun _ => True) (by (try simp only [more_drew, more_more]); exact hb) (fun _ _ _ _ => trivial) trivial ?_)
      try simp only [Act.put, zqA, zqB, zqC]
      (refine wpFp_eff rfl ?_ (fun wf hXf hE K hK => ?_); rfl; obtain ⟨osf, df, rfl⟩ := hXf.more; go_simp; refine (h2 _).mono ?_; rintro e w' ⟨rfl, hb⟩; refine hK _ _ (fun _ => True) (by (try simp only [more_drew, more_more]); exact hb) (fun _ _ _ _ => trivial) trivial ?_)
      try simp only [Act.put, zqA, zqB, zqC]
      refine wpFp_zero fun osa da hE => ?_
      try simp only [Act.put, zqA, zqB, zqC]
      iterate 2 ((refine wpTl_op rfl ?_ (fun K hK => ?_); rfl; go_simp; refine hK _ _ ?_); try simp only [Act.put, zqA, zqB, zqC])
      refine wpTl_nil ?_
      go_wp2_with fail
      go_ret
      exact ⟨rfl, by with_reducible repeat (first | exact Ext.refl _ | apply Ext.drew | apply Ext.alloc | apply Ext.more_)⟩
end Go.Proofs.YtkcoikelcmpceaaGreatDoor
namespace Go.Proofs.YtkcoikelcmpceaaGreatDoor
open Go.RowKit NM
abbrev tnV (x : Val) : Value := .tuple #[NV (tnP x).1 (tnP x).2, .int .i64 (tnF x)]
theorem tn_blank : tnV (Val.only 0) = .tuple #[NV 0 0, .int .i64 0] := rfl
theorem tn_num (m e : Int) : tnV ⟨1, m, e, ⟨#[]⟩, false, 0⟩ = .tuple #[NV m e, .int .i64 0] := rfl
theorem tn_true : tnV (truthV true) = .tuple #[NV 1 0, .int .i64 0] := rfl
theorem tn_false : tnV (truthV false) = .tuple #[NV 0 0, .int .i64 0] := rfl
theorem tn_bad (f : Int) : tnV (badV f) = .tuple #[NV 0 0, .int .i64 f] := rfl
theorem tn_text_no {t : ByteArray} (h : parS t = none) : tnV ⟨2, 0, 0, t, false, 0⟩ = .tuple #[NV 0 0, .int .i64 2] := by unfold tnV tnP tnF; simp [h]
theorem tn_text_yes {t : ByteArray} {p : Int × Int} (h : parS t = some p) : tnV ⟨2, 0, 0, t, false, 0⟩ = .tuple #[NV p.1 p.2, .int .i64 0] := by unfold tnV tnP tnF; simp [h]
set_option maxHeartbeats 1000000 in
theorem toNum_any (x : Val) (w : World) (hx : x.right) :
    Calls Tryz.prog 117 #[VV x.kind x.mant x.exp x.text x.truth x.fault] w fun e w' => e = .returned (tnV x) ∧ Ext w w' := by
  rcases hx.form with rfl | ⟨m, e, rfl, hr⟩ | ⟨t, rfl, ht⟩ | ⟨b, rfl⟩ | ⟨f, rfl, hf⟩
  · rw [tn_blank]
    simp only [Val.only]
    go_enter Tryz.func117, Tryz.ntmps117
    go_wp2_with fail
    exact bodyPost_ret (v := .tuple #[NV 0 0, .int .i64 0]) (by simp [results, Tryz.results117, go_sem]) rfl ⟨rfl, by with_reducible repeat (first | exact Ext.refl _ | apply Ext.drew | apply Ext.alloc | apply Ext.more_)⟩
  · rw [tn_num]
    clear hx hr
    simp only
    go_enter Tryz.func117, Tryz.ntmps117
    go_wp2_with fail
    exact bodyPost_ret (v := .tuple #[NV m e, .int .i64 0]) (by simp [results, Tryz.results117, go_sem]) rfl ⟨rfl, by with_reducible repeat (first | exact Ext.refl _ | apply Ext.drew | apply Ext.alloc | apply Ext.more_)⟩
  · have hp := fun W => parse_any t W (by omega)
    simp only
    cases h : parS t with
    | none =>
      rw [tn_text_no h]
      rw [h] at hp
      simp only [rnV, rm, re, Option.getD_none, Option.isSome_none] at hp
      clear h hx
      go_enter Tryz.func117, Tryz.ntmps117
      go_wp2_with (go_at_call 164; (with_reducible refine (hp _).mono ?_); rintro e w' ⟨rfl, hb⟩; obtain ⟨os, d, rfl⟩ := hb.more; clear hb)
      exact bodyPost_ret (v := .tuple #[NV 0 0, .int .i64 2]) (by simp [results, Tryz.results117, go_sem]) rfl ⟨rfl, by with_reducible repeat (first | exact Ext.refl _ | apply Ext.drew | apply Ext.alloc | apply Ext.more_)⟩
    | some p =>
      rw [tn_text_yes h]
      rw [h] at hp
      simp only [rnV, rm, re, Option.getD_some, Option.isSome_some] at hp
      clear h hx
      go_enter Tryz.func117, Tryz.ntmps117
      go_wp2_with (go_at_call 164; (with_reducible refine (hp _).mono ?_); rintro e w' ⟨rfl, hb⟩; obtain ⟨os, d, rfl⟩ := hb.more; clear hb)
      exact bodyPost_ret (v := .tuple #[NV p.1 p.2, .int .i64 0]) (by simp [results, Tryz.results117, go_sem]) rfl ⟨rfl, by with_reducible repeat (first | exact Ext.refl _ | apply Ext.drew | apply Ext.alloc | apply Ext.more_)⟩
  · cases b
    · rw [tn_false]
      simp only [truthV]
      clear hx
      go_enter Tryz.func117, Tryz.ntmps117
      go_wp2_with fail
      exact bodyPost_ret (v := .tuple #[NV 0 0, .int .i64 0]) (by simp [results, Tryz.results117, go_sem]) rfl ⟨rfl, by with_reducible repeat (first | exact Ext.refl _ | apply Ext.drew | apply Ext.alloc | apply Ext.more_)⟩
    · rw [tn_true]
      simp only [truthV]
      clear hx
      go_enter Tryz.func117, Tryz.ntmps117
      go_wp2_with fail
      exact bodyPost_ret (v := .tuple #[NV 1 0, .int .i64 0]) (by simp [results, Tryz.results117, go_sem]) rfl ⟨rfl, by with_reducible repeat (first | exact Ext.refl _ | apply Ext.drew | apply Ext.alloc | apply Ext.more_)⟩
  · rw [tn_bad]
    simp only [badV]
    clear hx hf
    go_enter Tryz.func117, Tryz.ntmps117
    go_upto_region 13 with fail
    go_region
    all_goals
      go_wp2_with fail
      exact bodyPost_ret (v := .tuple #[NV 0 0, .int .i64 f]) (by simp [results, Tryz.results117, go_sem]) rfl ⟨rfl, by with_reducible repeat (first | exact Ext.refl _ | apply Ext.drew | apply Ext.alloc | apply Ext.more_)⟩
end Go.Proofs.YtkcoikelcmpceaaGreatDoor
namespace Go.Proofs.YtkcoikelcmpceaaGreatDoor
open Go.RowKit NM
theorem rndx_right {m e : Int} (h : Rt m e) : rndI m e = some (m, e) := rnd_of_right false h
theorem rndx_scale (x e : Int) (i : Nat) : rndI (x * (T i : Nat)) (e - i) = rndI x e := by
  unfold rndI
  have h0 := T_pos i
  have h1 : decide (x * ((T i : Nat) : Int) < 0) = decide (x < 0) := by
    by_cases hx : x < 0
    · rw [decide_eq_true hx, decide_eq_true (Int.mul_neg_of_neg_of_pos hx (by omega))]
    · rw [decide_eq_false hx, decide_eq_false (Int.not_lt.2 (Int.mul_nonneg (by omega) (by omega)))]
  rw [h1, Int.natAbs_mul, Int.natAbs_natCast, rnd_scale]
/-- A number at the scale of 10^-100. -/
theorem rndx_sc (x : Int) {e : Int} (he : -100 ≤ e) : rndI (x * (T (e + 100).toNat : Nat)) (-100) = rndI x e := by
  have := rndx_scale x e (e + 100).toNat
  rw [show e - ((e + 100).toNat : Int) = -100 by omega] at this
  exact this
theorem rt_lo {m e : Int} (h : Rt m e) : -40 ≤ e := by
  rcases h with ⟨_, h⟩ | ⟨_, _, _, h, _⟩ <;> omega
theorem sc_uniq {m e m' e' : Int} (h : Rt m e) (h' : Rt m' e') (hs : sc m e = sc m' e') : m = m' ∧ e = e' := by
  have h1 := rndx_sc m (show -100 ≤ e by have := rt_lo h; omega)
  have h2 := rndx_sc m' (show -100 ≤ e' by have := rt_lo h'; omega)
  unfold sc at hs
  rw [hs, h2, rndx_right h, rndx_right h'] at h1
  simp only [Option.some.injEq, Prod.mk.injEq] at h1
  exact ⟨h1.1.symm, h1.2.symm⟩
theorem addx {ma ea mb eb : Int} (h1 : Rt ma ea) (h2 : Rt mb eb) : addS ma ea mb eb = rndI (sc ma ea + sc mb eb) (-100) := by
  have e1 := rt_lo h1
  have e2 := rt_lo h2
  unfold addS
  rw [if_pos ⟨h1, h2⟩, ← sum_sc (by omega) (by omega), rndx_sc _ (by omega)]
theorem subx {ma ea mb eb : Int} (h1 : Rt ma ea) (h2 : Rt mb eb) : subS ma ea mb eb = rndI (sc ma ea - sc mb eb) (-100) := by
  have e1 := rt_lo h1
  have e2 := rt_lo h2
  unfold subS
  rw [if_pos ⟨h1, h2⟩]
  have := sum_sc (ma := ma) (ea := ea) (mb := -mb) (eb := eb) (by omega) (by omega)
  rw [sc_neg] at this
  rw [Int.sub_eq_add_neg, ← this, rndx_sc _ (by omega)]
/-- A number of at most 15 digits is what it is. -/
theorem exactx {x e : Int} (hx : x.natAbs < T 15) (h1 : -40 ≤ e) (h2 : e ≤ 25) : ∃ m k, rndI x e = some (m, k) ∧ Rt m k ∧ sc m k = sc x e ∧ (m = 0 ↔ x = 0) ∧ (x ≠ 0 → e ≤ k) := by
  have hn : nd x.natAbs ≤ 15 := (nd_le_iff _ _).2 hx
  have hz : nd x.natAbs - 15 = 0 := by omega
  by_cases h0 : x = 0
  · subst h0
    refine ⟨0, 0, ?_, rt_zero, ?_, ⟨fun _ => rfl, fun _ => rfl⟩, fun h => absurd rfl h⟩
    · unfold rndI; exact rnd_nought _ _ _
    · unfold sc; rw [Int.zero_mul, Int.zero_mul]
  · have hN : x.natAbs ≠ 0 := by omega
    have e1 : n1 x.natAbs false = x.natAbs := by unfold n1; rw [hz, cutN_zero]
    have e2' : n2 x.natAbs false e = x.natAbs := by
      unfold n2; rw [e1, hz, show (-40 - (e + ((0 : Nat) : Int))).toNat = 0 by omega, cutN_zero]
    have e3 : NM.e2 x.natAbs e = e := by unfold NM.e2; rw [hz]; omega
    have hr : rndI x e = some (sg (decide (x < 0)) (trim x.natAbs e).1, (trim x.natAbs e).2) := by
      unfold rndI
      rw [rnd_fin, e2', e3]
      unfold fin
      rw [if_neg hN, if_neg (by omega)]
    obtain ⟨k, g1, g2, g3⟩ := trim_spec x.natAbs e hN
    have g4 : (trim x.natAbs e).1 ≠ 0 := fun h => g3 (by rw [h])
    refine ⟨_, _, hr, ?_, ?_, ⟨fun h => absurd (sg_zero.1 h) g4, fun h => absurd h h0⟩, fun _ => by rw [g2]; omega⟩
    · have := hr; unfold rndI at this; exact rnd_right this
    · have g5 := sc_trim (N := x.natAbs) (e := e) hN (by omega)
      unfold sc
      rw [← sg_mul_nat, g5, sg_mul_nat, sg_nat]
/-- The number of a whole number. -/
def wholeN (n : Int) : Int × Int := (rndI n 0).getD (0, 0)
theorem wholex {n : Int} (h : n.natAbs < T 15) : rndI n 0 = some (wholeN n) ∧ Rt (wholeN n).1 (wholeN n).2 ∧ sc (wholeN n).1 (wholeN n).2 = sc n 0 ∧ ((wholeN n).1 = 0 ↔ n = 0) ∧ 0 ≤ (wholeN n).2 := by
  obtain ⟨m, k, h1, h2, h3, h4, h5⟩ := exactx h (e := 0) (by omega) (by omega)
  have hw : wholeN n = (m, k) := by unfold wholeN; rw [h1]; rfl
  rw [hw]
  refine ⟨h1, h2, h3, h4, ?_⟩
  by_cases h0 : n = 0
  · have hm := h4.2 h0
    rcases h2 with ⟨_, hk⟩ | ⟨hm', _⟩
    · show 0 ≤ k; omega
    · exact absurd hm hm'
  · exact h5 h0
theorem sc_whole0 (n : Int) : sc n 0 = n * (T 100 : Nat) := rfl
theorem rnd_whole (n : Int) : rndI (n * (T 100 : Nat)) (-100) = rndI n 0 := rndx_sc n (e := 0) (by omega)
theorem sub_whole {a b : Int} (ha : a.natAbs < T 15) (hb : b.natAbs < T 15) : subS (wholeN a).1 (wholeN a).2 (wholeN b).1 (wholeN b).2 = rndI (a - b) 0 := by
  obtain ⟨_, a1, a2, _⟩ := wholex ha
  obtain ⟨_, b1, b2, _⟩ := wholex hb
  rw [subx a1 b1, a2, b2, sc_whole0, sc_whole0, ← Int.sub_mul, rnd_whole]
theorem add_whole {a b : Int} (ha : a.natAbs < T 15) (hb : b.natAbs < T 15) : addS (wholeN a).1 (wholeN a).2 (wholeN b).1 (wholeN b).2 = rndI (a + b) 0 := by
  obtain ⟨_, a1, a2, _⟩ := wholex ha
  obtain ⟨_, b1, b2, _⟩ := wholex hb
  rw [addx a1 b1, a2, b2, sc_whole0, sc_whole0, ← Int.add_mul, rnd_whole]
theorem rt_lit {m e : Int} (h0 : m ≠ 0) (h1 : m.natAbs < 1000000000000000) (h2 : m.natAbs % 10 ≠ 0) (h3 : -40 ≤ e) (h4 : e ≤ 25) : Rt m e := by
  have hn : nd m.natAbs ≤ 15 := (nd_le_iff _ _).2 (Nat.lt_of_lt_of_le h1 (by decide))
  exact Or.inr ⟨h0, Nat.lt_of_lt_of_le h1 (by decide), h2, h3, by omega⟩
end Go.Proofs.YtkcoikelcmpceaaGreatDoor
namespace Go.Proofs.YtkcoikelcmpceaaGreatDoor
open NM
/-- 10 to the power 140: what no right number reaches, scaled. -/
def MX : Nat := T 140
/-- A value without its sign, scaled, to the nearest of so many, a half up; but beyond the greatest one itself. -/
def GU (U x : Nat) : Nat := (if U ≤ 2 * (x % U) then x / U + 1 else x / U) * U
def HU (U x : Nat) : Nat := if GU U x < MX then GU U x else x
/-- The same with a sign. -/
def HI (U : Nat) (x : Int) : Int := if x < 0 then -(HU U x.natAbs : Int) else HU U x.natAbs
theorem sc_sg (neg : Bool) (N : Nat) (e : Int) : sc (sg neg N) e = sg neg (N * T (e + 100).toNat) := by unfold sc; rw [sg_mul_nat]
theorem sg_nought (b : Bool) : sg b 0 = 0 := by cases b <;> rfl
end Go.Proofs.YtkcoikelcmpceaaGreatDoor
namespace Go.Proofs.YtkcoikelcmpceaaGreatDoor
open Go.RowKit NM
theorem fin_whole {neg : Bool} {N : Nat} (h : nd N ≤ 15) : rnd neg N false 0 = some (sg neg (trim N 0).1, (trim N 0).2) := by
  rw [rnd_small h (by omega)]
  unfold fin
  by_cases h0 : N = 0
  · subst h0; rw [if_pos rfl, trim_zero]; cases neg <;> rfl
  · rw [if_neg h0, if_neg (by omega)]
theorem floorN_nd {m e : Int} {k : Nat} (h : Rt m e) (hk : 0 < k) : nd (floorN m k) ≤ 15 := by
  obtain ⟨b1, _, _⟩ := Rt_bd h
  have hT15 : T 15 = 1000000000000000 := by decide
  have h1 : m.natAbs / T k ≤ m.natAbs / T 1 := Nat.div_le_div_left (T_mono hk) (T_pos 1)
  have h2 : T 1 = 10 := by decide
  rw [h2] at h1
  rw [nd_le_iff]
  unfold floorN
  split <;> omega
end Go.Proofs.YtkcoikelcmpceaaGreatDoor
namespace Go.Proofs.YtkcoikelcmpceaaGreatDoor
open Go.RowKit NM
/-- 10 to the power 100, as a word. -/
def HX : Int := ((T 100 : Nat) : Int)
theorem HX_pos : 0 < HX := by have := T_pos 100; unfold HX; omega
theorem whole_sc {neg : Bool} {N : Nat} (h : nd N ≤ 15) : Rt (sg neg (trim N 0).1) (trim N 0).2 ∧ sc (sg neg (trim N 0).1) (trim N 0).2 = sg neg N * HX ∧ 0 ≤ (trim N 0).2 := by
  have h1 := fin_whole (neg := neg) h
  refine ⟨rnd_right h1, ?_, ?_⟩
  · rw [sc_sg]
    by_cases h0 : N = 0
    · rw [h0, trim_zero, Nat.zero_mul, sg_nought, Int.zero_mul]
    · rw [sc_trim h0 (by omega), sg_mul_nat]; rfl
  · by_cases h0 : N = 0
    · rw [h0, trim_zero]; exact Int.le_refl _
    · obtain ⟨k, _, hb, _⟩ := trim_spec N 0 h0
      rw [hb]; omega
theorem floor_spec {m e : Int} (h : Rt m e) : Rt (floorS m e).1 (floorS m e).2 ∧ 0 ≤ (floorS m e).2 ∧ sc (floorS m e).1 (floorS m e).2 ≤ sc m e ∧ sc m e < sc (floorS m e).1 (floorS m e).2 + HX := by
  have hH := HX_pos
  unfold floorS
  rw [if_neg (by simpa using h)]
  by_cases h0 : 0 ≤ e
  · rw [if_pos h0]; exact ⟨h, h0, Int.le_refl _, by show sc m e < sc m e + HX; omega⟩
  · rw [if_neg h0]
    obtain ⟨b1, b2, b3⟩ := Rt_bd h
    obtain ⟨k, hk⟩ : ∃ k : Nat, -e = (k : Int) := ⟨(-e).toNat, by omega⟩
    rw [hk, Int.toNat_natCast]
    have hk0 : 0 < k := by omega
    have hk100 : k ≤ 100 := by omega
    obtain ⟨w1, w2, w3⟩ := whole_sc (neg := decide (m < 0)) (floorN_nd h hk0)
    refine ⟨w1, w3, ?_⟩
    show sc (sg (decide (m < 0)) (trim (floorN m k) 0).1) (trim (floorN m k) 0).2 ≤ sc m e ∧ sc m e < sc (sg (decide (m < 0)) (trim (floorN m k) 0).1) (trim (floorN m k) 0).2 + HX
    rw [w2]
    have hdm := Nat.div_add_mod m.natAbs (T k)
    have hml := Nat.mod_lt m.natAbs (T_pos k)
    have hsc : sc m e = m * ((T (100 - k) : Nat) : Int) := by unfold sc; congr 3; omega
    have hHX : HX = ((T k : Nat) : Int) * ((T (100 - k) : Nat) : Int) := by unfold HX; rw [← T_cast_mul]; congr 2; omega
    have hr0 : m < 0 → m.natAbs % T k ≠ 0 := by
      intro hm
      rcases h with ⟨h1, _⟩ | ⟨_, _, h3, _, _⟩
      · omega
      · exact mod_T_ne h3 hk0
    have ht := T_pos (100 - k)
    unfold floorN
    rw [hsc, hHX]
    generalize T (100 - k) = t at *
    generalize m.natAbs / T k = q at *
    generalize m.natAbs % T k = r at *
    generalize T k = u at *
    have htI : (0 : Int) < (t : Int) := by omega
    have hrt : (r : Int) * (t : Int) < (u : Int) * (t : Int) := Int.mul_lt_mul_of_pos_right (by omega) htI
    have hrp : 0 ≤ (r : Int) * (t : Int) := Int.mul_nonneg (by omega) (by omega)
    by_cases hm : m < 0
    · have hmr : m = -((u : Int) * (q : Int) + (r : Int)) := by rw [← Int.natCast_mul]; omega
      have hr1 : 0 < (r : Int) * (t : Int) := Int.mul_pos (by have := hr0 hm; omega) htI
      rw [if_pos hm, decide_eq_true hm]
      have e1 : sg true (q + 1) * ((u : Int) * (t : Int)) = -((q : Int) * ((u : Int) * (t : Int))) - (u : Int) * (t : Int) := by
        simp only [sg, if_true]; rw [Int.neg_mul, Int.natCast_add, Int.add_mul]; simp; omega
      have e2 : m * (t : Int) = -((q : Int) * ((u : Int) * (t : Int))) - (r : Int) * (t : Int) := by
        rw [hmr, Int.neg_mul, Int.add_mul, Int.mul_comm (u : Int) (q : Int), Int.mul_assoc]; omega
      rw [e1, e2]
      omega
    · have hmr : m = (u : Int) * (q : Int) + (r : Int) := by rw [← Int.natCast_mul]; omega
      rw [if_neg hm, show decide (m < 0) = false by simp [hm]]
      have e1 : sg false q * ((u : Int) * (t : Int)) = (q : Int) * ((u : Int) * (t : Int)) := by simp [sg]
      have e2 : m * (t : Int) = (q : Int) * ((u : Int) * (t : Int)) + (r : Int) * (t : Int) := by
        rw [hmr, Int.add_mul, Int.mul_comm (u : Int) (q : Int), Int.mul_assoc]
      rw [e1, e2]
      omega
theorem sc_whole {m e : Int} (h : 0 ≤ e) : sc m e = m * (T e.toNat : Nat) * HX := by
  unfold sc HX
  rw [Int.mul_assoc, ← T_cast_mul]; congr 3; omega
end Go.Proofs.YtkcoikelcmpceaaGreatDoor
namespace Go.Proofs.YtkcoikelcmpceaaGreatDoor
open Go.RowKit NM
theorem rt_i64 {m e : Int} (h : Rt m e) : I64 m := by
  obtain ⟨h1, h2, h3⟩ := Rt_bd h
  unfold I64; omega
def cntV (n : Int) : Val := ⟨1, (wholeN n).1, (wholeN n).2, ⟨#[]⟩, false, 0⟩
end Go.Proofs.YtkcoikelcmpceaaGreatDoor
namespace Go.Proofs.YtkcoikelcmpceaaGreatDoor
open Go.RowKit NM
/-- Any array, and where its values lie. -/
structure GA where
  r : Int
  c : Int
  A : Option Addr
  n : Nat
  cap : Nat
  l : List Val
def GA.cells (g : GA) : List Value := [.int .i64 g.r, .int .i64 g.c, .slice g.A g.n g.cap]
def gcells (gs : List GA) : List Value := gs.flatMap GA.cells
def GA.right (g : GA) : Bool := rightA g.r g.c g.l
def Ar.toG (a : Ar) : GA := ⟨a.x.R, a.x.C, a.A, a.n, a.cap, a.x.l⟩
def GAt (w : World) (b o : Nat) (g : GA) : Prop :=
  w.cell? ⟨b, o, none⟩ = some (.int .i64 g.r) ∧ w.cell? ⟨b, o + 1, none⟩ = some (.int .i64 g.c) ∧ w.cell? ⟨b, o + 2, none⟩ = some (.slice g.A g.n g.cap)
theorem gcells_at : ∀ (gs : List GA) (i : Nat) (g : GA), gs[i]? = some g → ∀ j, j < 3 → (gcells gs)[i * 3 + j]? = g.cells[j]?
  | [], i, x, h, j, hj => by simp at h
  | y :: l, 0, x, h, j, hj => by
    obtain rfl : y = x := by simpa using h
    rw [gcells, List.flatMap_cons, List.getElem?_append_left (by simp [GA.cells]; omega)]
    simp
  | y :: l, i + 1, x, h, j, hj => by
    rw [gcells, List.flatMap_cons, List.getElem?_append_right (by simp [GA.cells]; omega)]
    rw [show (i + 1) * 3 + j - y.cells.length = i * 3 + j by simp [GA.cells]; omega]
    exact gcells_at l i x (by simpa using h) j hj
structure ArgsG (w : World) (A : Option Addr) (n cap : Nat) (gs : List GA) : Prop where
  rd : Rd 0 w A (gcells gs)
  len : gs.length = n
  cap : n ≤ cap
  small : n ≤ 9223372036854775807
  all : ∀ g ∈ gs, ArrIn w g.A g.n g.cap g.l
theorem ArgsG.get {w : World} {A : Option Addr} {n cap : Nat} {gs : List GA} (h : ArgsG w A n cap gs) {k : Nat} {g : GA} (hk : gs[k]? = some g) :
    ∃ b off, A = some ⟨b, off, none⟩ ∧ GAt w b (off + k * 3) g ∧ ArrIn w g.A g.n g.cap g.l := by
  have hc : ∀ j, j < 3 → (gcells gs)[k * 3 + j]? = g.cells[j]? := gcells_at gs k g hk
  obtain ⟨b, off, rfl, _, h0⟩ := h.rd (k * 3 + 0) (.int .i64 g.r) (by rw [hc 0 (by omega)]; rfl)
  refine ⟨b, off, rfl, ?_, h.all g (List.mem_of_getElem? hk)⟩
  have hg : ∀ j u, j < 3 → g.cells[j]? = some u → w.cell? ⟨b, off + k * 3 + j, none⟩ = some u := fun j u hj hu => by
    obtain ⟨b', off', he, _, h1⟩ := h.rd (k * 3 + j) u (by rw [hc j hj]; exact hu)
    simp only [Option.some.injEq, Addr.mk.injEq, and_true] at he
    obtain ⟨rfl, rfl⟩ := he
    rw [← h1]; congr 2; omega
  exact ⟨hg 0 _ (by omega) rfl, hg 1 _ (by omega) rfl, hg 2 _ (by omega) rfl⟩
theorem ArgsG.at {w : World} {A : Option Addr} {n cap : Nat} {gs : List GA} (h : ArgsG w A n cap gs) {k : Nat} (hk : k < n) :
    ∃ g b off, gs[k]? = some g ∧ A = some ⟨b, off, none⟩ ∧ GAt w b (off + k * 3) g ∧ ArrIn w g.A g.n g.cap g.l := by
  have hl : k < gs.length := by rw [h.len]; exact hk
  obtain ⟨b, off, e, h1, h2⟩ := h.get (List.getElem?_eq_getElem hl)
  exact ⟨_, b, off, List.getElem?_eq_getElem hl, e, h1, h2⟩
theorem rightA_shape {r c : Int} {l : List Val} (h : rightA r c l = true) : ∃ R C : Nat, r = (R : Int) ∧ c = (C : Int) := by
  unfold rightA at h
  simp only [Bool.and_eq_true] at h
  have := fits_mul h.1.1
  exact ⟨r.toNat, c.toNat, by omega, by omega⟩
theorem gcells_toG : ∀ xs : List Ar, gcells (xs.map Ar.toG) = acells xs
  | [] => rfl
  | a :: xs => by
    show GA.cells (Ar.toG a) ++ gcells (xs.map Ar.toG) = Ar.cells a ++ acells xs
    rw [gcells_toG xs]; rfl
theorem ArgsG.toIn {w : World} {A : Option Addr} {n cap : Nat} {xs : List Ar} (h : ArgsG w A n cap (xs.map Ar.toG)) (hr : ∀ a ∈ xs, a.x.right) : ArgsIn w A n cap xs :=
  ⟨by rw [← gcells_toG]; exact h.rd, by rw [← h.len, List.length_map], h.cap, h.small, fun a ha => ⟨h.all a.toG (List.mem_map.2 ⟨a, ha, rfl⟩), hr a ha⟩⟩
theorem ArgsIn.toG {w : World} {A : Option Addr} {n cap : Nat} {xs : List Ar} (h : ArgsIn w A n cap xs) : ArgsG w A n cap (xs.map Ar.toG) :=
  ⟨by rw [gcells_toG]; exact h.rd, by rw [List.length_map]; exact h.len, h.cap, h.small, fun g hg => by obtain ⟨a, ha, rfl⟩ := List.mem_map.1 hg; exact (h.all a ha).arr⟩
/-- What Call tells of a function that there is, of so many arguments, each of which may be or not. -/
def callX (lo hi : Nat) (gs : List GA) (F : NA) : NA :=
  if gs.length < lo ∨ hi < gs.length then aloneO 2 else if gs.all GA.right then F else aloneO 9
end Go.Proofs.YtkcoikelcmpceaaGreatDoor
namespace Go.Proofs.YtkcoikelcmpceaaGreatDoor
open Go.RowKit
theorem getV_all {P : Val → Prop} {l : List Val} {k : Nat} (h : ∀ x ∈ l, P x) (hk : k < l.length) : P (getV l k) := h _ (getV_mem hk)
end Go.Proofs.YtkcoikelcmpceaaGreatDoor
namespace Go.Proofs.YtkcoikelcmpceaaGreatDoor
open Go.RowKit
theorem new_cells_at (w : World) (n : Nat) (cs : List Value) {C : Array Value} (hn : n = w.heap.size) (hC : C = cs.toArray) (ty : TypeId) : ∀ j u, cs[j]? = some u → (w.alloc (.cells C ty)).cell? ((⟨n, 0, none⟩ : Addr).add j) = some u := by
  subst hn hC; exact new_cells w cs ty
theorem own_ext {w w1 : World} {base : Nat} {e : TypeId} {size n : Nat} {v : Value} {xs : List Value} (h : w.ownsRow base e size v n xs) (hx : Ext w w1) : w1.ownsRow base e size v n xs := by
  refine ⟨h.1, ?_⟩
  rcases h.2 with h2 | ⟨g, cap, cur, hv, hg, hh, r⟩
  · exact .inl h2
  · refine .inr ⟨g, cap, cur, hv, hg, ?_, r⟩
    rw [hx.block ?_]; exact hh
    rcases Nat.lt_or_ge g w.heap.size with hl | hl
    · exact hl
    · rw [Array.getElem?_eq_none hl] at hh; cases hh
theorem own_block {w : World} {base : Nat} {e : TypeId} {size n : Nat} {v : Value} {xs : List Value} (h : w.ownsRow base e size v n xs) : ∀ k, v.ownBlock = some k → base ≤ k := by
  intro k hk
  rcases h.2 with ⟨rfl, _⟩ | ⟨g, cap, cur, rfl, hg, _⟩
  · cases hk
  · simp only [Value.ownBlock, Option.some.injEq] at hk; omega
theorem lt_of_block {w : World} {b : Nat} {o : Obj} (h : w.heap[b]? = some o) : b < w.heap.size := by
  rcases Nat.lt_or_ge b w.heap.size with hl | hl
  · exact hl
  · rw [Array.getElem?_eq_none hl] at h; cases h
end Go.Proofs.YtkcoikelcmpceaaGreatDoor
namespace Go.Proofs.YtkcoikelcmpceaaGreatDoor
open Go.RowKit NM
/-- An array of one value at a place. -/
def arAt (x : NA) (D : Option Addr) (m c : Nat) : Ar := ⟨x, D, m, c⟩
end Go.Proofs.YtkcoikelcmpceaaGreatDoor
namespace Go.Proofs.YtkcoikelcmpceaaGreatDoor
open Go.RowKit NM
abbrev Nm := Int × Int
/-- A number as a value. -/
def nV (p : Nm) : Val := ⟨1, p.1, p.2, ⟨#[]⟩, false, 0⟩
def ncells (l : List Nm) : List Value := l.flatMap fun p => [.int .i64 p.1, .int .i64 p.2]
def NRt (l : List Nm) : Prop := ∀ p ∈ l, Rt p.1 p.2
theorem ncells_append (l l' : List Nm) : ncells (l ++ l') = ncells l ++ ncells l' := by simp [ncells]
theorem ncells_cons (p : Nm) (l : List Nm) : ncells (p :: l) = [.int .i64 p.1, .int .i64 p.2] ++ ncells l := by simp [ncells]
theorem ncells_at : ∀ (l : List Nm) (i : Nat) (p : Nm), l[i]? = some p → (ncells l)[i * 2]? = some (.int .i64 p.1) ∧ (ncells l)[i * 2 + 1]? = some (.int .i64 p.2)
  | [], i, p, h => by simp at h
  | q :: l, 0, p, h => by
    obtain rfl : q = p := by simpa using h
    rw [ncells_cons]; exact ⟨rfl, rfl⟩
  | q :: l, i + 1, p, h => by
    have ih := ncells_at l i p (by simpa using h)
    rw [ncells_cons, show (i + 1) * 2 = i * 2 + 2 by omega]
    exact ⟨ih.1, ih.2⟩
/-- The first fault of some values, 0: none; their numbers; all values of some arguments. -/
def ffL : List Val → Int
  | [] => 0
  | v :: l => if v.kind = 4 then v.fault else ffL l
def numsL : List Val → List Nm
  | [] => []
  | v :: l => if v.kind = 1 then (v.mant, v.exp) :: numsL l else numsL l
def allV (xs : List Ar) : List Val := xs.flatMap fun a => a.x.l
def sumO : Nm → List Nm → Option Nm
  | t, [] => some t
  | t, n :: l => (addS t.1 t.2 n.1 n.2).bind fun u => sumO u l
def sumV (l : List Nm) : Val := numRes (sumO (0, 0) l)
/-- What a function of all numbers tells. -/
def ofNumsO (F : List Nm → Val) (xs : List Ar) : NA := if ffL (allV xs) = 0 then oneA (F (numsL (allV xs))) else aloneO (ffL (allV xs))
/-- How many values are of a kind. -/
def countedO (p : Val → Bool) (l : List Val) : NA := oneA (cntV ((l.filter p).length : Int))
def modN (a b : Nm) : Val := if b.1 = 0 then badV 1 else match divS a.1 a.2 b.1 b.2 with
  | none => badV 5
  | some q => match mulS b.1 b.2 (floorS q.1 q.2).1 (floorS q.1 q.2).2 with
    | none => badV 5
    | some p => numRes (subS a.1 a.2 p.1 p.2)
def modV (x y : Val) : Val := if tnF x ≠ 0 then bad_ (tnF x) else if tnF y ≠ 0 then bad_ (tnF y) else modN (tnP x) (tnP y)
/-- A criterion: its sign, and what is sought. -/
inductive CS where
  | ge | le | ne | gt | lt | eq
  deriving DecidableEq
def CS.key : CS → List UInt8
  | .ge => [62, 61] | .le => [60, 61] | .ne => [60, 62] | .gt => [62] | .lt => [60] | .eq => [61]
def CS.holds : CS → Int → Bool
  | .ge, n => decide (0 ≤ n)
  | .le, n => decide (n ≤ 0)
  | .ne, n => n != 0
  | .gt, n => decide (0 < n)
  | .lt, n => decide (n < 0)
  | .eq, n => n == 0
def kfitB (c : CS) (s x : Val) : Bool := if x.kind = s.kind then c.holds (cmpV x s) else c = .ne
end Go.Proofs.YtkcoikelcmpceaaGreatDoor
namespace Go.Proofs.YtkcoikelcmpceaaGreatDoor
open Go.RowKit NM
def faultTs : List ByteArray := [⟨#[]⟩, ⟨#[35, 68, 73, 86, 47, 48, 33]⟩, ⟨#[35, 86, 65, 76, 85, 69, 33]⟩, ⟨#[35, 82, 69, 70, 33]⟩, ⟨#[35, 78, 65, 77, 69, 63]⟩, ⟨#[35, 78, 85, 77, 33]⟩, ⟨#[35, 78, 47, 65]⟩, ⟨#[35, 83, 80, 73, 76, 76, 33]⟩, ⟨#[35, 67, 73, 82, 67, 33]⟩, ⟨#[35, 67, 65, 76, 67, 33]⟩]
def faultT (k : Nat) : ByteArray := faultTs.getD k ⟨#[]⟩
def faultFrom (X : ByteArray) : Nat → Nat → Int
  | 0, _ => 0
  | n + 1, k => if X.toList == (faultT k).toList then (k : Int) else faultFrom X n (k + 1)
/-- The fault whose text a folded text is, 0: none. -/
def faultO (X : ByteArray) : Int := faultFrom X 9 1
theorem faultFrom_bd (X : ByteArray) : ∀ n k : Nat, 1 ≤ k → k + n ≤ 10 → 0 ≤ faultFrom X n k ∧ faultFrom X n k ≤ 9
  | 0, _, _, _ => by unfold faultFrom; omega
  | n + 1, k, h1, h2 => by
    unfold faultFrom
    split
    · omega
    · exact faultFrom_bd X n (k + 1) (by omega) (by omega)
theorem faultO_bd (X : ByteArray) : 0 ≤ faultO X ∧ faultO X ≤ 9 := faultFrom_bd X 9 1 (by omega) (by omega)
/-- The faults' texts lie in their table. -/
def FTab (w : World) : Prop := w.var? Tryz.prog "counterpane/value.faultTexts" = some (faultTs.map Value.string).toArray
theorem FTab.low {w w' : World} (h : FTab w) (hx : ∀ b, b < w.heap.size → w'.heap[b]? = w.heap[b]?) : FTab w' := by
  unfold FTab World.var? at *
  cases hg : Tryz.prog.globalNamed "counterpane/value.faultTexts" with
  | none => simp [hg] at h
  | some g =>
    simp only [hg, Option.bind_some] at h ⊢
    have hlt : g < w.heap.size := by
      rcases Nat.lt_or_ge g w.heap.size with h' | h'
      · exact h'
      · rw [Array.getElem?_eq_none h'] at h; simp at h
    rw [hx g hlt]
    exact h
theorem FTab.ext {w w' : World} (h : FTab w) (hx : Ext w w') : FTab w' := h.low fun _ hb => hx.block hb
theorem gFaults : Tryz.prog.globalNamed "counterpane/value.faultTexts" = some 2 := by kernel_rfl
theorem faultTs_at (k : Nat) (hk : k < 10) : faultTs[k]? = some (faultT k) := by
  have : faultTs.length = 10 := rfl
  unfold faultT
  rw [List.getD_eq_getElem?_getD, List.getElem?_eq_getElem (by omega)]; rfl
theorem FTab.cell {w : World} (h : FTab w) {k : Nat} (hk : k < 10) : w.cell? ⟨2, k, none⟩ = some (.string (faultT k)) := by
  unfold FTab World.var? at h
  rw [gFaults, Option.bind_some] at h
  unfold World.cell?
  have e := faultTs_at k hk
  split at h
  · rename_i cs _ _ hh
    obtain rfl := Option.some.inj h
    simp only [hh]
    simp [e]
  · cases h
set_option maxHeartbeats 2000000 in
theorem faultOf_any (s : ByteArray) (w : World) (hs : s.size ≤ 9223372036854775807) (hft : FTab w) :
    Calls Tryz.prog 188 #[.string s] w fun e w' => e = .returned (.int .i64 (faultO (foldB s))) ∧ Ext w w' := by
  have hF := fun W => fold_any s W hs
  have HT := Lib.hid hft
  obtain ⟨r, hr⟩ : ∃ r, faultO (foldB s) = r := ⟨_, rfl⟩
  rw [hr]
  unfold faultO at hr
  have HR := Lib.hid hr
  clear hft hr
  generalize foldB s = X at *
  go_enter Tryz.func188, Tryz.ntmps188
  go_upto_region 3 with (go_at_call 187; (with_reducible refine (hF _).mono ?_); rintro e w' ⟨rfl, hb⟩; obtain ⟨os, d, rfl⟩ := hb.more; clear hb)
  go_loopw [3] (fun i wr => ∃ k : Nat, 1 ≤ k ∧ k ≤ 10 ∧ i = .int .i64 (k : Int) ∧ wr = more w os d ∧ Hid (faultFrom X (10 - k) k = r)) (fun i _ => 10 - (intOf i).toNat)
  case atStart => exact ⟨1, by omega, by omega, rfl, rfl, HR.out⟩
  case round =>
    obtain ⟨k, h1, h2, rfl, rfl, HK⟩ := hrel
    by_cases hlt : k ≤ 9
    · have hc := (HT.out.ext (ext_more w os d)).cell (k := k) (by omega)
      have hl := lt_of_cell hc
      have hk := HK.out
      rw [show 10 - k = (9 - k) + 1 by omega] at hk
      unfold faultFrom at hk
      have hlt' : (k : Int) ≤ 9 := by omega
      have hlt2 : (k : Int) < 10 := by omega
      generalize faultT k = Y at *
      cases hq : X.toList == Y.toList with
      | true =>
        rw [hq, if_pos rfl] at hk
        subst hk
        clear HK HR
        go_wp2_with fail
        go_ret
        exact ⟨rfl, by with_reducible repeat (first | exact Ext.refl _ | apply Ext.drew | apply Ext.alloc | apply Ext.more_)⟩
      | false =>
        rw [hq, if_neg (by simp)] at hk
        have HK2 := Lib.hid hk
        clear hk HK
        go_wp2_with fail
        refine ⟨⟨k + 1, by omega, by omega, by go_num, (by first | rfl | trivial), ?_⟩, by simp [intOf]; omega⟩
        rw [show 10 - (k + 1) = 9 - k by omega]; exact HK2
    · obtain rfl : k = 10 := by omega
      have hk := HK.out
      unfold faultFrom at hk
      simp only [Nat.sub_self] at hk
      subst hk
      clear HK HR
      go_wp2_with fail
      go_ret
      exact ⟨rfl, by with_reducible repeat (first | exact Ext.refl _ | apply Ext.drew | apply Ext.alloc | apply Ext.more_)⟩
/-- What a typed text is. -/
def readV (s : ByteArray) : Val :=
  if s.toList == [] then Val.only 0
  else if (parS s).isSome then nV ((parS s).getD (0, 0))
  else if (foldB s).toList == [84, 82, 85, 69] then truthV true
  else if (foldB s).toList == [70, 65, 76, 83, 69] then truthV false
  else if faultO (foldB s) ≠ 0 then badV (faultO (foldB s))
  else textV s
theorem right_read (s : ByteArray) : (readV s).right := by
  unfold readV
  split
  · exact show valRight (Val.only 0) = true from rfl
  · split
    · rename_i h
      obtain ⟨p, hp⟩ := Option.isSome_iff_exists.1 h
      rw [hp]; exact right_num (par_rt hp)
    · split
      · exact right_truth _
      · split
        · exact right_truth _
        · split
          · have := faultO_bd (foldB s)
            exact right_badV ⟨by omega, by omega⟩
          · exact right_text _
set_option maxHeartbeats 2000000 in
theorem vread_any (s : ByteArray) (w : World) (hs : s.size ≤ 1000) (hft : FTab w) :
    Calls Tryz.prog 158 #[.string s] w fun e w' => e = .returned (VV (readV s).kind (readV s).mant (readV s).exp (readV s).text (readV s).truth (readV s).fault) ∧ Ext w w' := by
  have hF := fun W => fold_any s W (by omega)
  have hP := fun W => parse_any s W hs
  have hO := fun W h => faultOf_any s W (by omega) h
  have hX := fun W => text_any s W (by omega)
  have HT := Lib.hid hft
  unfold readV
  clear hft
  cases h0 : s.toList == [] with
  | true =>
    rw [if_pos rfl]
    show Calls _ _ _ w fun e w' => e = .returned (VV 0 0 0 ⟨#[]⟩ false 0) ∧ Ext w w'
    go_enter Tryz.func158, Tryz.ntmps158
    go_wp2_with fail
    exact bodyPost_ret (v := VV 0 0 0 ⟨#[]⟩ false 0) (by simp [results, Tryz.results158, go_sem]) rfl ⟨rfl, by with_reducible repeat (first | exact Ext.refl _ | apply Ext.drew | apply Ext.alloc | apply Ext.more_)⟩
  | false =>
    rw [if_neg (by simp)]
    cases hp : parS s with
    | some p =>
      rw [hp] at hP
      obtain ⟨m, ex⟩ := p
      simp only [rnV, rm, re, Option.getD_some, Option.isSome_some, if_true] at hP ⊢
      show Calls _ _ _ w fun e w' => e = .returned (VV 1 m ex ⟨#[]⟩ false 0) ∧ Ext w w'
      clear hp
      go_enter Tryz.func158, Tryz.ntmps158
      go_wp2_with (first | (go_at_call 164; (with_reducible refine (hP _).mono ?_); rintro e w' ⟨rfl, hb⟩; obtain ⟨os1, d1, rfl⟩ := hb.more; clear hb) | (go_at_call 99; (with_reducible refine (of_any _ _ _).mono ?_); rintro e w' ⟨rfl, hb⟩; obtain ⟨os2, d2, rfl⟩ := hb.more; clear hb))
      exact bodyPost_ret (v := VV 1 m ex ⟨#[]⟩ false 0) (by simp [results, Tryz.results158, go_sem]) rfl ⟨rfl, by with_reducible repeat (first | exact Ext.refl _ | apply Ext.drew | apply Ext.alloc | apply Ext.more_)⟩
    | none =>
      rw [hp] at hP
      simp only [rnV, rm, re, Option.getD_none, Option.isSome_none, Bool.false_eq_true, if_false] at hP ⊢
      clear hp
      generalize foldB s = X at *
      cases h1 : X.toList == [84, 82, 85, 69] with
      | true =>
        rw [if_pos rfl]
        show Calls _ _ _ w fun e w' => e = .returned (VV 3 0 0 ⟨#[]⟩ true 0) ∧ Ext w w'
        go_enter Tryz.func158, Tryz.ntmps158
        go_wp2_with (first | (go_at_call 164; (with_reducible refine (hP _).mono ?_); rintro e w' ⟨rfl, hb⟩; obtain ⟨os1, d1, rfl⟩ := hb.more; clear hb) | (go_at_call 187; (with_reducible refine (hF _).mono ?_); rintro e w' ⟨rfl, hb⟩; obtain ⟨os2, d2, rfl⟩ := hb.more; clear hb) | (go_at_call 130; (with_reducible refine (truth_any _ _).mono ?_); rintro e w' ⟨rfl, hb⟩; obtain ⟨os3, d3, rfl⟩ := hb.more; clear hb))
        exact bodyPost_ret (v := VV 3 0 0 ⟨#[]⟩ true 0) (by simp [results, Tryz.results158, go_sem]) rfl ⟨rfl, by with_reducible repeat (first | exact Ext.refl _ | apply Ext.drew | apply Ext.alloc | apply Ext.more_)⟩
      | false =>
        rw [if_neg (by simp)]
        cases h2 : X.toList == [70, 65, 76, 83, 69] with
        | true =>
          rw [if_pos rfl]
          show Calls _ _ _ w fun e w' => e = .returned (VV 3 0 0 ⟨#[]⟩ false 0) ∧ Ext w w'
          go_enter Tryz.func158, Tryz.ntmps158
          go_wp2_with (first | (go_at_call 164; (with_reducible refine (hP _).mono ?_); rintro e w' ⟨rfl, hb⟩; obtain ⟨os1, d1, rfl⟩ := hb.more; clear hb) | (go_at_call 187; (with_reducible refine (hF _).mono ?_); rintro e w' ⟨rfl, hb⟩; obtain ⟨os2, d2, rfl⟩ := hb.more; clear hb) | (go_at_call 130; (with_reducible refine (truth_any _ _).mono ?_); rintro e w' ⟨rfl, hb⟩; obtain ⟨os3, d3, rfl⟩ := hb.more; clear hb))
          exact bodyPost_ret (v := VV 3 0 0 ⟨#[]⟩ false 0) (by simp [results, Tryz.results158, go_sem]) rfl ⟨rfl, by with_reducible repeat (first | exact Ext.refl _ | apply Ext.drew | apply Ext.alloc | apply Ext.more_)⟩
        | false =>
          rw [if_neg (by simp)]
          have hfb := faultO_bd X
          generalize faultO X = g at *
          by_cases hg : g = 0
          · subst hg
            rw [if_neg (by simp)]
            have ht0 : (textV s).mant = 0 ∧ (textV s).exp = 0 ∧ (textV s).truth = false := by unfold textV; split <;> exact ⟨rfl, rfl, rfl⟩
            rw [ht0.1, ht0.2.1, ht0.2.2]
            generalize (textV s).kind = yk at *
            generalize (textV s).text = yt at *
            generalize (textV s).fault = yf at *
            clear ht0
            go_enter Tryz.func158, Tryz.ntmps158
            go_wp2_with (first | (go_at_call 164; (with_reducible refine (hP _).mono ?_); rintro e w' ⟨rfl, hb⟩; obtain ⟨os1, d1, rfl⟩ := hb.more; clear hb) | (go_at_call 187; (with_reducible refine (hF _).mono ?_); rintro e w' ⟨rfl, hb⟩; obtain ⟨os2, d2, rfl⟩ := hb.more; clear hb) | (go_at_call 188; (with_reducible refine (hO _ (HT.out.ext (by with_reducible repeat (first | exact Ext.refl _ | apply Ext.drew | apply Ext.alloc | apply Ext.more_)))).mono ?_); rintro e w' ⟨rfl, hb⟩; obtain ⟨os3, d3, rfl⟩ := hb.more; clear hb) | (go_at_call 129; (with_reducible refine (hX _).mono ?_); rintro e w' ⟨rfl, hb⟩; obtain ⟨os4, d4, rfl⟩ := hb.more; clear hb))
            exact bodyPost_ret (v := VV yk 0 0 yt false yf) (by simp [results, Tryz.results158, go_sem]) rfl ⟨rfl, by with_reducible repeat (first | exact Ext.refl _ | apply Ext.drew | apply Ext.alloc | apply Ext.more_)⟩
          · rw [if_pos hg]
            have hg' : (g != 0) = true := by simpa using hg
            have hB := fun W => bad_any g W
            rw [show badF g = g by unfold badF; rw [if_neg (by omega)]] at hB
            show Calls _ _ _ w fun e w' => e = .returned (VV 4 0 0 ⟨#[]⟩ false g) ∧ Ext w w'
            clear hg hfb
            go_enter Tryz.func158, Tryz.ntmps158
            go_wp2_with (first | (go_at_call 164; (with_reducible refine (hP _).mono ?_); rintro e w' ⟨rfl, hb⟩; obtain ⟨os1, d1, rfl⟩ := hb.more; clear hb) | (go_at_call 187; (with_reducible refine (hF _).mono ?_); rintro e w' ⟨rfl, hb⟩; obtain ⟨os2, d2, rfl⟩ := hb.more; clear hb) | (go_at_call 188; (with_reducible refine (hO _ (HT.out.ext (by with_reducible repeat (first | exact Ext.refl _ | apply Ext.drew | apply Ext.alloc | apply Ext.more_)))).mono ?_); rintro e w' ⟨rfl, hb⟩; obtain ⟨os3, d3, rfl⟩ := hb.more; clear hb) | (go_at_call 65; (with_reducible refine (hB _).mono ?_); rintro e w' ⟨rfl, hb⟩; obtain ⟨os4, d4, rfl⟩ := hb.more; clear hb))
            exact bodyPost_ret (v := VV 4 0 0 ⟨#[]⟩ false g) (by simp [results, Tryz.results158, go_sem]) rfl ⟨rfl, by with_reducible repeat (first | exact Ext.refl _ | apply Ext.drew | apply Ext.alloc | apply Ext.more_)⟩
end Go.Proofs.YtkcoikelcmpceaaGreatDoor
namespace Go.Proofs.YtkcoikelcmpceaaGreatDoor
open Go.RowKit NM
theorem cmpK_same {a b : Val} (h : a.kind = b.kind) : cmpK a b = if a.kind = 1 then cmpS a.mant a.exp b.mant b.exp else if a.kind = 2 then cmpT a.text b.text else if a.kind = 3 then sgB a.truth b.truth else if a.kind = 4 then sgI a.fault b.fault else 0 := by
  unfold cmpK
  rw [if_neg (fun h' => h' h)]
def Tri (n : Int) : Prop := n = -1 ∨ n = 0 ∨ n = 1
theorem sgI_tri (a b : Int) : Tri (sgI a b) := by
  unfold sgI Tri; split
  · exact Or.inl rfl
  · split
    · exact Or.inr (Or.inr rfl)
    · exact Or.inr (Or.inl rfl)
theorem cmpS_tri (a b c d : Int) : Tri (cmpS a b c d) := by
  have := cmp_bd a b c d
  unfold Tri; omega
theorem cmpK_tri (a b : Val) : Tri (cmpK a b) := by
  by_cases h : a.kind = b.kind
  · rw [cmpK_same h]
    by_cases h1 : a.kind = 1
    · rw [if_pos h1]; exact cmpS_tri _ _ _ _
    · rw [if_neg h1]
      by_cases h2 : a.kind = 2
      · rw [if_pos h2]; exact cb_vals _ _
      · rw [if_neg h2]
        by_cases h3 : a.kind = 3
        · rw [if_pos h3]
          cases a.truth <;> cases b.truth <;> (unfold Tri sgB; simp)
        · rw [if_neg h3]
          by_cases h4 : a.kind = 4
          · rw [if_pos h4]; exact sgI_tri _ _
          · rw [if_neg h4]; exact Or.inr (Or.inl rfl)
  · unfold cmpK
    rw [if_pos h]
    split
    · exact Or.inl rfl
    · exact Or.inr (Or.inr rfl)
theorem cmpV_tri (a b : Val) : Tri (cmpV a b) := cmpK_tri _ _
end Go.Proofs.YtkcoikelcmpceaaGreatDoor
namespace Go.Proofs.YtkcoikelcmpceaaGreatDoor
open Go.RowKit NM
set_option maxHeartbeats 1000000 in
theorem kfault_any (f : Int) (w : World) : Calls Tryz.prog 22 #[.int .i64 f] w fun e w' => ResA w (aloneO f) e w' := by
  go_enter Tryz.func22, Tryz.ntmps22
  go_wp2_with (go_at_call 65; (with_reducible refine (bad_any _ _).mono ?_); rintro e w' ⟨rfl, hb⟩; obtain ⟨os, d, rfl⟩ := hb.more; clear hb)
  go_at_call 64
  refine (one_res (bad_ f) _ (ok_bad f) (right_bad f)).mono ?_
  rintro e w' ⟨D, m, cc, rfl, hD, hb⟩
  obtain ⟨os2, d2, rfl⟩ := hb.more
  clear hb
  have hDr := hD.rd
  go_wp2_with fail
  exact bodyPost_ret (v := AV (oneA (bad_ f)).R (oneA (bad_ f)).C (.slice D m cc)) (by simp [results, Tryz.results22, go_sem]) rfl ⟨D, m, cc, rfl, ⟨(by (try simp only [more_more] at hDr); (try simp only [drew_more] at hDr); (try simp only [more_drew] at hDr); (try simp only [Array.append_assoc] at hDr); exact Rd.swap hDr (by first | (simp; done) | (simp; omega) | omega) (by first | (simp; done) | (simp; omega) | omega) (by first | (simp; done) | (simp; omega) | omega)), hD.len, hD.cap, hD.small, hD.ok⟩, by with_reducible repeat (first | exact Ext.refl _ | apply Ext.drew | apply Ext.alloc | apply Ext.more_)⟩
abbrev kfnE (lo hi : Int) (f : Value) : Value := .agg #[.int .i64 lo, .int .i64 hi, f]
abbrev kbx (t : TypeId) (fid : FuncId) : Obj := .cells #[fn0 fid] t
def fmathL (p : Nat → Nat) : Tab1 :=
  [([83, 85, 77], kfnE 1 32 (fn1 94 (p 0))),
   ([80, 82, 79, 68, 85, 67, 84], kfnE 1 32 (fn1 94 (p 1))),
   ([77, 73, 78], kfnE 1 32 (fn1 94 (p 2))),
   ([77, 65, 88], kfnE 1 32 (fn1 94 (p 3))),
   ([67, 79, 85, 78, 84], kfnE 1 32 (fn1 101 (p 4))),
   ([67, 79, 85, 78, 84, 65], kfnE 1 32 (fn1 101 (p 5))),
   ([65, 86, 69, 82, 65, 71, 69], kfnE 1 32 (fn1 94 (p 6))),
   ([77, 69, 68, 73, 65, 78], kfnE 1 32 (fn1 94 (p 7))),
   ([83, 85, 77, 80, 82, 79, 68, 85, 67, 84], kfnE 1 32 (fn0 49)),
   ([76, 65, 82, 71, 69], kfnE 2 2 (fn1 108 (p 8))),
   ([83, 77, 65, 76, 76], kfnE 2 2 (fn1 108 (p 9))),
   ([67, 79, 85, 78, 84, 73, 70], kfnE 2 2 (fn0 54)),
   ([83, 85, 77, 73, 70], kfnE 2 3 (fn0 55)),
   ([65, 66, 83], kfnE 1 1 (fn1 114 (p 10))),
   ([83, 73, 71, 78], kfnE 1 1 (fn1 114 (p 11))),
   ([73, 78, 84], kfnE 1 1 (fn1 114 (p 12))),
   ([82, 79, 85, 78, 68], kfnE 2 2 (fn1 122 (p 13))),
   ([77, 79, 68], kfnE 2 2 (fn1 122 (p 14))),
   ([80, 79, 87, 69, 82], kfnE 2 2 (fn0 63))]
def fmathB (p : Nat → Nat) : List (Nat × Obj) :=
  [(p 0, kbx 78 39), (p 1, kbx 78 40), (p 2, kbx 78 41), (p 3, kbx 78 43), (p 4, kbx 82 45), (p 5, kbx 82 46), (p 6, kbx 78 47), (p 7, kbx 78 48), (p 8, kbx 84 51), (p 9, kbx 84 53), (p 10, kbx 86 57), (p 11, kbx 86 58), (p 12, kbx 86 59), (p 13, kbx 88 61), (p 14, kbx 88 62)]
theorem fmath_pair (p : Nat → Nat) : (fmathL p).Pairwise (fun p q => p.1 ≠ q.1) := by simp [fmathL]
theorem zero_kfn (w : World) : (zeroValue 58).run Tryz.prog w = .ok (.agg #[.int .i64 0, .int .i64 0, .nilFunc]) w := by kernel_rfl
theorem kalloc_new (w : World) (o : Obj) : (w.alloc o).heap[w.heap.size]? = some o := Array.getElem?_push_size
theorem kofNumbers_mk (fid : FuncId) (capt : Array Value) (w : World) :
    Calls Tryz.prog 38 #[.func (.func fid) #[] capt] w fun e w' => e = .returned (fn1 94 w.heap.size) ∧ w' = w.alloc (.cells #[.func (.func fid) #[] capt] 78) := by
  go_enter Tryz.func38, Tryz.ntmps38
  go_wp2_with fail
  go_ret
  exact ⟨rfl, rfl⟩
theorem kcounted_mk (fid : FuncId) (capt : Array Value) (w : World) :
    Calls Tryz.prog 44 #[.func (.func fid) #[] capt] w fun e w' => e = .returned (fn1 101 w.heap.size) ∧ w' = w.alloc (.cells #[.func (.func fid) #[] capt] 82) := by
  go_enter Tryz.func44, Tryz.ntmps44
  go_wp2_with fail
  go_ret
  exact ⟨rfl, rfl⟩
theorem kranked_mk (fid : FuncId) (capt : Array Value) (w : World) :
    Calls Tryz.prog 50 #[.func (.func fid) #[] capt] w fun e w' => e = .returned (fn1 108 w.heap.size) ∧ w' = w.alloc (.cells #[.func (.func fid) #[] capt] 84) := by
  go_enter Tryz.func50, Tryz.ntmps50
  go_wp2_with fail
  go_ret
  exact ⟨rfl, rfl⟩
theorem kofEach_mk (fid : FuncId) (capt : Array Value) (w : World) :
    Calls Tryz.prog 56 #[.func (.func fid) #[] capt] w fun e w' => e = .returned (fn1 114 w.heap.size) ∧ w' = w.alloc (.cells #[.func (.func fid) #[] capt] 86) := by
  go_enter Tryz.func56, Tryz.ntmps56
  go_wp2_with fail
  go_ret
  exact ⟨rfl, rfl⟩
theorem kofBoth_mk (fid : FuncId) (capt : Array Value) (w : World) :
    Calls Tryz.prog 60 #[.func (.func fid) #[] capt] w fun e w' => e = .returned (fn1 122 w.heap.size) ∧ w' = w.alloc (.cells #[.func (.func fid) #[] capt] 88) := by
  go_enter Tryz.func60, Tryz.ntmps60
  go_wp2_with fail
  go_ret
  exact ⟨rfl, rfl⟩
def kP (l : List Nat) (i : Nat) : Nat := l.getD i 0
set_option maxHeartbeats 2000000 in
theorem functions_any (w : World) :
    Calls Tryz.prog 21 #[] w fun e w' => ∃ b, e = .returned (.map (some b)) ∧ ∃ p, TabS Tryz.prog 9 w b (fmathL p) (fmathB p) w' := by
  have hmm := @run_makeMap Tryz.prog
  have hT := TabS.start w Tryz.prog 9
  go_enter Tryz.func21, Tryz.ntmps21
  go_wp2_with (first | (go_at_call 38; (with_reducible refine (kofNumbers_mk _ _ _).mono ?_); rintro e w' ⟨rfl, hw⟩; have hT := hT.new (W' := w') (by rw [hw]; exact (Ext.refl _).alloc _) (by rw [hw]; exact kalloc_new _ _); clear hw; (try (rw [show (w.alloc (Obj.map #[] 0)).heap.size = w.heap.size + 1 by simp] at hT))) | (go_at_call 44; (with_reducible refine (kcounted_mk _ _ _).mono ?_); rintro e w' ⟨rfl, hw⟩; have hT := hT.new (W' := w') (by rw [hw]; exact (Ext.refl _).alloc _) (by rw [hw]; exact kalloc_new _ _); clear hw; (try (rw [show (w.alloc (Obj.map #[] 0)).heap.size = w.heap.size + 1 by simp] at hT))) | (go_at_call 50; (with_reducible refine (kranked_mk _ _ _).mono ?_); rintro e w' ⟨rfl, hw⟩; have hT := hT.new (W' := w') (by rw [hw]; exact (Ext.refl _).alloc _) (by rw [hw]; exact kalloc_new _ _); clear hw; (try (rw [show (w.alloc (Obj.map #[] 0)).heap.size = w.heap.size + 1 by simp] at hT))) | (go_at_call 56; (with_reducible refine (kofEach_mk _ _ _).mono ?_); rintro e w' ⟨rfl, hw⟩; have hT := hT.new (W' := w') (by rw [hw]; exact (Ext.refl _).alloc _) (by rw [hw]; exact kalloc_new _ _); clear hw; (try (rw [show (w.alloc (Obj.map #[] 0)).heap.size = w.heap.size + 1 by simp] at hT))) | (go_at_call 60; (with_reducible refine (kofBoth_mk _ _ _).mono ?_); rintro e w' ⟨rfl, hw⟩; have hT := hT.new (W' := w') (by rw [hw]; exact (Ext.refl _).alloc _) (by rw [hw]; exact kalloc_new _ _); clear hw; (try (rw [show (w.alloc (Obj.map #[] 0)).heap.size = w.heap.size + 1 by simp] at hT))) | (refine wpL_insert rfl _ _ _ _ rfl 9 58 Tryz.underlying9 Tryz.underlying60 _ _ rfl hT.tab (by simp only [List.length_append, List.length_nil, List.length_cons, maxLen]; omega) _ rfl (by simp only [maxLen, ByteArray.size, List.size_toArray, List.length_cons, List.length_nil]; omega) _ rfl ?_; intro w1 ht1 hg1; have hT := hT.put ht1 hg1; clear ht1 hg1))
  go_ret
  exact ⟨w.heap.size, rfl, kP [_, _, _, _, _, _, _, _, _, _, _, _, _, _, _], hT⟩
end Go.Proofs.YtkcoikelcmpceaaGreatDoor
