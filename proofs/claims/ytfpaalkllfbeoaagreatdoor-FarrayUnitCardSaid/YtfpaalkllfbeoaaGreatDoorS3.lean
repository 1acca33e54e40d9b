/- What the rows' proofs lean on: the contracts of the functions that they reach, and plain facts (part S3). -/
import Derived.WalkKit
import Derived.WalkLawsBesides
import Derived.WalkSpells
import Derived.Outline
import Derived.Below
import Derived.Deep.RegionHeld3
import Derived.Deep.DeepCutAuto
import Derived.Deep.AppendLies
import Derived.Maps.AppendAt
import Derived.Lib.Hide
import Derived.OrdersHeld
import Derived.Test.YtfpaalkllfbeoaaGreatDoorProg
import Derived.Shelf.Small.Bits
import Derived.Shelf.Small.Strs
import Derived.Shelf.Strconv.Itoa0
import Derived.Shelf.Strconv.Itoa1
import Derived.Shelf.LaysM
import Derived.Shelf.Strconv.Itoa2
import Derived.Shelf.Bits.Mul64
import Derived.Lib.ItoaMem
import Derived.Lib.OthersKept
import Derived.Deep.CutBlock
import Derived.Laws.Bits64b
import Derived.Lib.AppendZeros
import Derived.Lib.Bytealg
import Derived.Laws.RangeAny
import Derived.Maps.OwnSet
import Derived.Maps.Own
import Derived.Laws.EntriesVeiled
import Derived.Lib.ConvBytes
import Derived.Lib.SlBytesRow
import Derived.Lib.SmallJoins
import Derived.RegionTactic
import Derived.Test.YtfpaalkllfbeoaaGreatDoorS2
set_option linter.unusedSimpArgs false
set_option linter.unusedVariables false
set_option maxRecDepth 100000
namespace Go.Proofs.YtfpaalkllfbeoaaGreatDoor
open Go.RowKit
set_option maxHeartbeats 400000 in
theorem valRight_any (k m ex f : Int) (t : ByteArray) (b : Bool) (w : World) (hm : I64 m) (ht : t.size ≤ 9223372036854775807) :
    Calls Tryz.prog 75 #[VV k m ex t b f] w fun e w' => e = .returned (.bool (valRight ⟨k, m, ex, t, b, f⟩)) ∧ Ext w w' := by
  have heq := eql_val
  by_cases h0 : k = 0
  · subst h0
    go_enter Tryz.func75, Tryz.ntmps75
    go_wp2
    go_ret
    exact ⟨ret_bool (by simp [valRight, Val.zero]), by repeat (first | exact Ext.refl _ | apply Ext.drew | apply Ext.alloc | apply Ext.more_)⟩
  by_cases h1 : k = 1
  · subst h1
    by_cases hr : numRightB m ex = true
    · have e : valRight ⟨1, m, ex, t, b, f⟩ = eqV ⟨1, m, ex, t, b, f⟩ ⟨1, m, ex, ⟨#[]⟩, false, 0⟩ := by simp [valRight, hr]
      rw [e]; clear e h0
      go_enter Tryz.func75, Tryz.ntmps75
      go_wp2
      refine wp_plan (S := Ext _) [(0, 0), (1, 0), (2, 1), (3, 0), (4, 0), (5, 0), (6, 0), (7, 1), (8, 0), (9, 0), (10, 0)] [] (by kernel_rfl) (by kernel_rfl) (by kernel_rfl) (fun _ _ d _ _ h => by cases d <;> exact h) (Ext.drew (Ext.refl _)) ?_
      iterate 2 ((refine wpPl_read (v := ?_) rfl ?_ (fun _ h => ?_) ?_; rotate_left 1; rfl; (obtain ⟨_, _, rfl⟩ := h.more; go_simp; try rfl)); try simp only [Act.put, zqA, zqB, zqC])
      (refine wpPl_eff rfl ?_ (fun K hK => ?_); rfl; go_simp; refine (numRight_any _ _ _ hm).mono ?_; rintro e w' ⟨rfl, hb⟩; obtain ⟨os, d, rfl⟩ := hb.more; refine hK _ _ ?_ ?_; (repeat (first | (with_reducible (first | exact Ext.refl _ | exact ext_d _ _ _ _ | exact ext_app _ _ _ _ _ | exact ext_app2 _ _ _ _ _ _ | exact ext_app3 _ _ _ _ _ _ _ | exact ext_app4 _ _ _ _ _ _ _ _ | exact ext_app5 _ _ _ _ _ _ _ _ _)) | ((with_reducible refine ext_suffix ⟨_, ?_⟩); (try simp only [Array.append_assoc]); rfl) | (with_reducible (first | apply Ext.drew | apply Ext.alloc | apply Ext.more_)) | apply Ext.drew | apply Ext.alloc | apply Ext.more_)))
      try simp only [Act.put, zqA, zqB, zqC]
      (refine wpPl_read (v := ?_) rfl ?_ (fun _ h => ?_) ?_; rotate_left 1; rfl; (obtain ⟨_, _, rfl⟩ := h.more; go_simp; try rfl))
      try simp only [Act.put, zqA, zqB, zqC]
      iterate 3 ((first | (refine wpPl_skip rfl rfl ?_) | (refine wpPl_read (v := ?_) rfl ?_ (fun w1 h1 => ?_) ?_; rotate_left 1; rfl; (obtain ⟨os1, d1, rfl⟩ := h1.more; go_simp; first | done | rfl)) | (refine wpPl_gread (v := ?_) (c := ?_) rfl rfl rfl rfl ?_ (fun hc w1 h1 => ?_) ?_; rotate_left 2; (first | exact gc_t _ | exact gc_f _ | exact gc_gt _ _ | exact gc_gf _ _); (obtain ⟨os1, d1, rfl⟩ := h1.more; (try simp only [gv_of hc]); (try (have hc1 := and_l hc; (try simp only [gv_of hc1]); (try (have hc2 := and_l hc1; (try simp only [gv_of hc2]))))); go_simp; first | done | rfl))); try simp only [Act.put, zqA, zqB, zqC])
      first | (refine wpPl_effskip rfl ?_ ?_ ?_; (first | with_reducible rfl | rfl | (go_simp; done)); (repeat (first | (with_reducible (first | exact Ext.refl _ | exact ext_d _ _ _ _ | exact ext_app _ _ _ _ _ | exact ext_app2 _ _ _ _ _ _ | exact ext_app3 _ _ _ _ _ _ _ | exact ext_app4 _ _ _ _ _ _ _ _ | exact ext_app5 _ _ _ _ _ _ _ _ _)) | ((with_reducible refine ext_suffix ⟨_, ?_⟩); (try simp only [Array.append_assoc]); rfl) | (with_reducible (first | apply Ext.drew | apply Ext.alloc | apply Ext.more_)) | apply Ext.drew | apply Ext.alloc | apply Ext.more_))) | (refine wpPl_eff rfl ?_ (fun K hK => ?_); (first | with_reducible rfl | rfl | (go_simp; done)); go_simp; refine (of_any _ _ _).mono ?_; rintro e w' ⟨rfl, hb⟩; obtain ⟨os, d, rfl⟩ := hb.more; refine hK _ _ ?_ ?_; (repeat (first | (with_reducible (first | exact Ext.refl _ | exact ext_d _ _ _ _ | exact ext_app _ _ _ _ _ | exact ext_app2 _ _ _ _ _ _ | exact ext_app3 _ _ _ _ _ _ _ | exact ext_app4 _ _ _ _ _ _ _ _ | exact ext_app5 _ _ _ _ _ _ _ _ _)) | ((with_reducible refine ext_suffix ⟨_, ?_⟩); (try simp only [Array.append_assoc]); rfl) | (with_reducible (first | apply Ext.drew | apply Ext.alloc | apply Ext.more_)) | apply Ext.drew | apply Ext.alloc | apply Ext.more_)))
      try simp only [Act.put, zqA, zqB, zqC]
      first | (refine wpPl_skip rfl rfl ?_) | (refine wpPl_read (v := ?_) rfl ?_ (fun w1 h1 => ?_) ?_; rotate_left 1; rfl; (obtain ⟨os1, d1, rfl⟩ := h1.more; go_simp; first | done | rfl)) | (refine wpPl_gread (v := ?_) (c := ?_) rfl rfl rfl rfl ?_ (fun hc w1 h1 => ?_) ?_; rotate_left 2; (first | exact gc_t _ | exact gc_f _ | exact gc_gt _ _ | exact gc_gf _ _); (obtain ⟨os1, d1, rfl⟩ := h1.more; (try simp only [gv_of hc]); (try (have hc1 := and_l hc; (try simp only [gv_of hc1]); (try (have hc2 := and_l hc1; (try simp only [gv_of hc2]))))); go_simp; first | done | rfl))
      try simp only [Act.put, zqA, zqB, zqC]
      first | (refine wpPl_pick_and rfl rfl rfl rfl rfl rfl ?_) | (refine wpPl_pick_or rfl rfl rfl rfl rfl rfl ?_) | (refine wpPl_read (v := ?_) rfl ?_ (fun w1 h1 => ?_) ?_; rotate_left 1; rfl; (obtain ⟨os1, d1, rfl⟩ := h1.more; go_simp; first | done | rfl))
      try simp only [Act.put, zqA, zqB, zqC]
      (refine wpPl_read (v := ?_) rfl ?_ (fun _ h => ?_) ?_; rotate_left 1; rfl; (obtain ⟨_, _, rfl⟩ := h.more; go_simp; try rfl))
      try simp only [Act.put, zqA, zqB, zqC]
      refine wpPl_nil ?_
      go_wp2
      go_ret
      exact ⟨rfl, by repeat (first | exact Ext.refl _ | apply Ext.drew | apply Ext.alloc | apply Ext.more_)⟩
    · have hr' : numRightB m ex = false := by simpa using hr
      have e : valRight ⟨1, m, ex, t, b, f⟩ = false := by simp [valRight, hr]
      rw [e]; clear e h0 hr
      go_enter Tryz.func75, Tryz.ntmps75
      go_wp2
      refine wp_plan (S := Ext _) [(0, 0), (1, 0), (2, 1), (3, 0), (4, 0), (5, 0), (6, 0), (7, 1), (8, 0), (9, 0), (10, 0)] [] (by kernel_rfl) (by kernel_rfl) (by kernel_rfl) (fun _ _ d _ _ h => by cases d <;> exact h) (Ext.drew (Ext.refl _)) ?_
      iterate 2 ((refine wpPl_read (v := ?_) rfl ?_ (fun _ h => ?_) ?_; rotate_left 1; rfl; (obtain ⟨_, _, rfl⟩ := h.more; go_simp; try rfl)); try simp only [Act.put, zqA, zqB, zqC])
      (refine wpPl_eff rfl ?_ (fun K hK => ?_); rfl; go_simp; refine (numRight_any _ _ _ hm).mono ?_; rintro e w' ⟨rfl, hb⟩; obtain ⟨os, d, rfl⟩ := hb.more; refine hK _ _ ?_ ?_; (repeat (first | (with_reducible (first | exact Ext.refl _ | exact ext_d _ _ _ _ | exact ext_app _ _ _ _ _ | exact ext_app2 _ _ _ _ _ _ | exact ext_app3 _ _ _ _ _ _ _ | exact ext_app4 _ _ _ _ _ _ _ _ | exact ext_app5 _ _ _ _ _ _ _ _ _)) | ((with_reducible refine ext_suffix ⟨_, ?_⟩); (try simp only [Array.append_assoc]); rfl) | (with_reducible (first | apply Ext.drew | apply Ext.alloc | apply Ext.more_)) | apply Ext.drew | apply Ext.alloc | apply Ext.more_)))
      try simp only [Act.put, zqA, zqB, zqC]
      (refine wpPl_read (v := ?_) rfl ?_ (fun _ h => ?_) ?_; rotate_left 1; rfl; (obtain ⟨_, _, rfl⟩ := h.more; go_simp; try rfl))
      try simp only [Act.put, zqA, zqB, zqC]
      iterate 3 ((first | (refine wpPl_skip rfl rfl ?_) | (refine wpPl_read (v := ?_) rfl ?_ (fun w1 h1 => ?_) ?_; rotate_left 1; rfl; (obtain ⟨os1, d1, rfl⟩ := h1.more; go_simp; first | done | rfl)) | (refine wpPl_gread (v := ?_) (c := ?_) rfl rfl rfl rfl ?_ (fun hc w1 h1 => ?_) ?_; rotate_left 2; (first | exact gc_t _ | exact gc_f _ | exact gc_gt _ _ | exact gc_gf _ _); (obtain ⟨os1, d1, rfl⟩ := h1.more; (try simp only [gv_of hc]); (try (have hc1 := and_l hc; (try simp only [gv_of hc1]); (try (have hc2 := and_l hc1; (try simp only [gv_of hc2]))))); go_simp; first | done | rfl))); try simp only [Act.put, zqA, zqB, zqC])
      first | (refine wpPl_effskip rfl ?_ ?_ ?_; (first | with_reducible rfl | rfl | (go_simp; done)); (repeat (first | (with_reducible (first | exact Ext.refl _ | exact ext_d _ _ _ _ | exact ext_app _ _ _ _ _ | exact ext_app2 _ _ _ _ _ _ | exact ext_app3 _ _ _ _ _ _ _ | exact ext_app4 _ _ _ _ _ _ _ _ | exact ext_app5 _ _ _ _ _ _ _ _ _)) | ((with_reducible refine ext_suffix ⟨_, ?_⟩); (try simp only [Array.append_assoc]); rfl) | (with_reducible (first | apply Ext.drew | apply Ext.alloc | apply Ext.more_)) | apply Ext.drew | apply Ext.alloc | apply Ext.more_))) | (refine wpPl_eff rfl ?_ (fun K hK => ?_); (first | with_reducible rfl | rfl | (go_simp; done)); go_simp; refine (of_any _ _ _).mono ?_; rintro e w' ⟨rfl, hb⟩; obtain ⟨os, d, rfl⟩ := hb.more; refine hK _ _ ?_ ?_; (repeat (first | (with_reducible (first | exact Ext.refl _ | exact ext_d _ _ _ _ | exact ext_app _ _ _ _ _ | exact ext_app2 _ _ _ _ _ _ | exact ext_app3 _ _ _ _ _ _ _ | exact ext_app4 _ _ _ _ _ _ _ _ | exact ext_app5 _ _ _ _ _ _ _ _ _)) | ((with_reducible refine ext_suffix ⟨_, ?_⟩); (try simp only [Array.append_assoc]); rfl) | (with_reducible (first | apply Ext.drew | apply Ext.alloc | apply Ext.more_)) | apply Ext.drew | apply Ext.alloc | apply Ext.more_)))
      try simp only [Act.put, zqA, zqB, zqC]
      first | (refine wpPl_skip rfl rfl ?_) | (refine wpPl_read (v := ?_) rfl ?_ (fun w1 h1 => ?_) ?_; rotate_left 1; rfl; (obtain ⟨os1, d1, rfl⟩ := h1.more; go_simp; first | done | rfl)) | (refine wpPl_gread (v := ?_) (c := ?_) rfl rfl rfl rfl ?_ (fun hc w1 h1 => ?_) ?_; rotate_left 2; (first | exact gc_t _ | exact gc_f _ | exact gc_gt _ _ | exact gc_gf _ _); (obtain ⟨os1, d1, rfl⟩ := h1.more; (try simp only [gv_of hc]); (try (have hc1 := and_l hc; (try simp only [gv_of hc1]); (try (have hc2 := and_l hc1; (try simp only [gv_of hc2]))))); go_simp; first | done | rfl))
      try simp only [Act.put, zqA, zqB, zqC]
      first | (refine wpPl_pick_and rfl rfl rfl rfl rfl rfl ?_) | (refine wpPl_pick_or rfl rfl rfl rfl rfl rfl ?_) | (refine wpPl_read (v := ?_) rfl ?_ (fun w1 h1 => ?_) ?_; rotate_left 1; rfl; (obtain ⟨os1, d1, rfl⟩ := h1.more; go_simp; first | done | rfl))
      try simp only [Act.put, zqA, zqB, zqC]
      (refine wpPl_read (v := ?_) rfl ?_ (fun _ h => ?_) ?_; rotate_left 1; rfl; (obtain ⟨_, _, rfl⟩ := h.more; go_simp; try rfl))
      try simp only [Act.put, zqA, zqB, zqC]
      refine wpPl_nil ?_
      go_wp2
      go_ret
      exact ⟨rfl, by repeat (first | exact Ext.refl _ | apply Ext.drew | apply Ext.alloc | apply Ext.more_)⟩
  by_cases h2 : k = 2
  · subst h2
    clear h0 h1
    go_enter Tryz.func75, Tryz.ntmps75
    go_wp2
    refine wp_plan (S := Ext _) [(0, 0), (1, 0), (2, 0), (3, 1), (4, 0), (5, 0)] [] (by kernel_rfl) (by kernel_rfl) (by kernel_rfl) (fun _ _ d _ _ h => by cases d <;> exact h) (Ext.drew (Ext.refl _)) ?_
    iterate 3 ((refine wpPl_read (v := ?_) rfl ?_ (fun _ h => ?_) ?_; rotate_left 1; rfl; (obtain ⟨_, _, rfl⟩ := h.more; go_simp; try rfl)); try simp only [Act.put, zqA, zqB, zqC])
    (refine wpPl_eff rfl ?_ (fun K hK => ?_); rfl; go_simp; refine (text_any _ _ ht).mono ?_; rintro e w' ⟨rfl, hb⟩; obtain ⟨os, d, rfl⟩ := hb.more; refine hK _ _ ?_ ?_; (repeat (first | (with_reducible (first | exact Ext.refl _ | exact ext_d _ _ _ _ | exact ext_app _ _ _ _ _ | exact ext_app2 _ _ _ _ _ _ | exact ext_app3 _ _ _ _ _ _ _ | exact ext_app4 _ _ _ _ _ _ _ _ | exact ext_app5 _ _ _ _ _ _ _ _ _)) | ((with_reducible refine ext_suffix ⟨_, ?_⟩); (try simp only [Array.append_assoc]); rfl) | (with_reducible (first | apply Ext.drew | apply Ext.alloc | apply Ext.more_)) | apply Ext.drew | apply Ext.alloc | apply Ext.more_)))
    try simp only [Act.put, zqA, zqB, zqC]
    iterate 2 ((refine wpPl_read (v := ?_) rfl ?_ (fun _ h => ?_) ?_; rotate_left 1; rfl; (obtain ⟨_, _, rfl⟩ := h.more; go_simp; try rfl)); try simp only [Act.put, zqA, zqB, zqC])
    refine wpPl_nil ?_
    go_wp2
    go_ret
    exact ⟨ret_bool (by simp [valRight]; unfold textV; split <;> rfl), by repeat (first | exact Ext.refl _ | apply Ext.drew | apply Ext.alloc | apply Ext.more_)⟩
  by_cases h3 : k = 3
  · subst h3
    clear h0 h1 h2
    go_enter Tryz.func75, Tryz.ntmps75
    go_wp2
    refine wp_plan (S := Ext _) [(0, 0), (1, 0), (2, 0), (3, 1), (4, 0), (5, 0)] [] (by kernel_rfl) (by kernel_rfl) (by kernel_rfl) (fun _ _ d _ _ h => by cases d <;> exact h) (Ext.drew (Ext.refl _)) ?_
    iterate 3 ((refine wpPl_read (v := ?_) rfl ?_ (fun _ h => ?_) ?_; rotate_left 1; rfl; (obtain ⟨_, _, rfl⟩ := h.more; go_simp; try rfl)); try simp only [Act.put, zqA, zqB, zqC])
    (refine wpPl_eff rfl ?_ (fun K hK => ?_); rfl; go_simp; refine (truth_any _ _).mono ?_; rintro e w' ⟨rfl, hb⟩; obtain ⟨os, d, rfl⟩ := hb.more; refine hK _ _ ?_ ?_; (repeat (first | (with_reducible (first | exact Ext.refl _ | exact ext_d _ _ _ _ | exact ext_app _ _ _ _ _ | exact ext_app2 _ _ _ _ _ _ | exact ext_app3 _ _ _ _ _ _ _ | exact ext_app4 _ _ _ _ _ _ _ _ | exact ext_app5 _ _ _ _ _ _ _ _ _)) | ((with_reducible refine ext_suffix ⟨_, ?_⟩); (try simp only [Array.append_assoc]); rfl) | (with_reducible (first | apply Ext.drew | apply Ext.alloc | apply Ext.more_)) | apply Ext.drew | apply Ext.alloc | apply Ext.more_)))
    try simp only [Act.put, zqA, zqB, zqC]
    iterate 2 ((refine wpPl_read (v := ?_) rfl ?_ (fun _ h => ?_) ?_; rotate_left 1; rfl; (obtain ⟨_, _, rfl⟩ := h.more; go_simp; try rfl)); try simp only [Act.put, zqA, zqB, zqC])
    refine wpPl_nil ?_
    go_wp2
    go_ret
    exact ⟨ret_bool (by simp [valRight]), by repeat (first | exact Ext.refl _ | apply Ext.drew | apply Ext.alloc | apply Ext.more_)⟩
  by_cases h4 : k = 4
  · subst h4
    clear h0 h1 h2 h3
    go_enter Tryz.func75, Tryz.ntmps75
    go_wp2
    refine wp_plan (S := Ext _) [(0, 0), (1, 0), (2, 0), (3, 1), (4, 0), (5, 0)] [] (by kernel_rfl) (by kernel_rfl) (by kernel_rfl) (fun _ _ d _ _ h => by cases d <;> exact h) (Ext.drew (Ext.refl _)) ?_
    iterate 3 ((refine wpPl_read (v := ?_) rfl ?_ (fun _ h => ?_) ?_; rotate_left 1; rfl; (obtain ⟨_, _, rfl⟩ := h.more; go_simp; try rfl)); try simp only [Act.put, zqA, zqB, zqC])
    (refine wpPl_eff rfl ?_ (fun K hK => ?_); rfl; go_simp; refine (bad_any _ _).mono ?_; rintro e w' ⟨rfl, hb⟩; obtain ⟨os, d, rfl⟩ := hb.more; refine hK _ _ ?_ ?_; (repeat (first | (with_reducible (first | exact Ext.refl _ | exact ext_d _ _ _ _ | exact ext_app _ _ _ _ _ | exact ext_app2 _ _ _ _ _ _ | exact ext_app3 _ _ _ _ _ _ _ | exact ext_app4 _ _ _ _ _ _ _ _ | exact ext_app5 _ _ _ _ _ _ _ _ _)) | ((with_reducible refine ext_suffix ⟨_, ?_⟩); (try simp only [Array.append_assoc]); rfl) | (with_reducible (first | apply Ext.drew | apply Ext.alloc | apply Ext.more_)) | apply Ext.drew | apply Ext.alloc | apply Ext.more_)))
    try simp only [Act.put, zqA, zqB, zqC]
    iterate 2 ((refine wpPl_read (v := ?_) rfl ?_ (fun _ h => ?_) ?_; rotate_left 1; rfl; (obtain ⟨_, _, rfl⟩ := h.more; go_simp; try rfl)); try simp only [Act.put, zqA, zqB, zqC])
    refine wpPl_nil ?_
    go_wp2
    go_ret
    exact ⟨ret_bool (by simp [valRight]), by repeat (first | exact Ext.refl _ | apply Ext.drew | apply Ext.alloc | apply Ext.more_)⟩
  have e : valRight ⟨k, m, ex, t, b, f⟩ = false := by simp [valRight, h0, h1, h2, h3, h4]
  rw [e]; clear e
  have h0 : (k == 0) = false := by simp [h0]
  have h1 : (k == 1) = false := by simp [h1]
  have h2 : (k == 2) = false := by simp [h2]
  have h3 : (k == 3) = false := by simp [h3]
  have h4 : (k == 4) = false := by simp [h4]
  go_enter Tryz.func75, Tryz.ntmps75
  go_wp2
  go_ret
  exact ⟨rfl, by repeat (first | exact Ext.refl _ | apply Ext.drew | apply Ext.alloc | apply Ext.more_)⟩
end Go.Proofs.YtfpaalkllfbeoaaGreatDoor
namespace Go.Proofs.YtfpaalkllfbeoaaGreatDoor
open Go.RowKit
theorem txt_ne (t : ByteArray) : (!t.toList.isEmpty) = true ↔ t ≠ ⟨#[]⟩ := by
  obtain ⟨⟨l⟩⟩ := t
  simp [ByteArray.toList_eq]
theorem txt_eq (t : ByteArray) : (!t.toList.isEmpty) = false ↔ t = ⟨#[]⟩ := by
  obtain ⟨⟨l⟩⟩ := t
  simp [ByteArray.toList_eq]
theorem refRight_bad {k m ex f : Int} {t : ByteArray} {b : Bool} (h : (((k != 1) = true ∧ ((!m == 0) = true ∨ (!ex == 0) = true) ∨ (k != 2) = true ∧ (!t.toList.isEmpty) = true) ∨ (k != 3) = true ∧ b = true) ∨ (k != 4) = true ∧ (f != 0) = true) :
    false = refRight ⟨k, m, ex, t, b, f⟩ := by
  unfold refRight
  rw [if_pos]
  rw [txt_ne] at h
  simp at h ⊢
  rcases h with ((⟨h1, h2⟩ | ⟨h1, h2⟩) | ⟨h1, h2⟩) | ⟨h1, h2⟩
  · left; refine ⟨h1, fun h3 => ?_⟩; rcases h2 with h2 | h2 <;> simp_all
  · right; left; exact ⟨h1, h2⟩
  · right; right; left; exact ⟨h1, h2⟩
  · right; right; right; exact ⟨h1, h2⟩
theorem refRight_good {k m ex f : Int} {t : ByteArray} {b : Bool} (h : ((((k != 1) = false ∨ (!m == 0) = false ∧ (!ex == 0) = false) ∧ ((k != 2) = false ∨ (!t.toList.isEmpty) = false)) ∧ ((k != 3) = false ∨ b = false)) ∧ ((k != 4) = false ∨ (f != 0) = false)) :
    refRight ⟨k, m, ex, t, b, f⟩ = if k = 1 then refNumRight m ex else if k = 2 then decide (t.size ≤ 255) else k == 0 || k == 3 || (k == 4 && decide (1 ≤ f) && decide (f ≤ 9)) := by
  unfold refRight
  rw [if_neg]
  rw [txt_eq] at h
  obtain ⟨⟨⟨h1, h2⟩, h3⟩, h4⟩ := h
  simp at h1 h2 h3 h4
  rintro (⟨h5, h6⟩ | ⟨h5, h6⟩ | ⟨h5, h6⟩ | ⟨h5, h6⟩)
  · exact h6 (h1.resolve_left h5)
  · exact h6 (h2.resolve_left h5)
  · rcases h3 with h3 | h3
    · exact h5 h3
    · simp_all
  · exact h6 (h4.resolve_left h5)
set_option maxHeartbeats 1000000 in
theorem refRight_any (k m ex f : Int) (t : ByteArray) (b : Bool) (w : World) (hm : I64 m) (ht : t.size ≤ 9223372036854775807) :
    Calls Tryz.prog 30 #[VV k m ex t b f] w fun e w' => e = .returned (.bool (refRight ⟨k, m, ex, t, b, f⟩)) ∧ Ext w w' := by
  generalize hR : refRight ⟨k, m, ex, t, b, f⟩ = R
  have HR := Lib.hid hR
  clear hR
  go_enter Tryz.func30, Tryz.ntmps30
  go_upto_region 1 with (fail)
  refine wp_region_lit ?_
  iterate 5 ((refine wpL_read (v := ?_) rfl ?_ ?_; rotate_left 1; (go_simp; first | done | rfl)); try simp only [Act.put, zqA, zqB, zqC])
  iterate 4 ((refine wpL_gread (v := ?_) (c := ?_) rfl rfl rfl ?_ (fun hc => ?_) ?_; rotate_left 2; (first | exact gc_t _ | exact gc_f _ | exact gc_gt _ _ | exact gc_gf _ _); ((try simp only [gv_of hc]); (try (have hc1 := and_l hc; (try simp only [gv_of hc1]); (try (have hc2 := and_l hc1; (try simp only [gv_of hc2]))))); go_simp; first | done | rfl)); try simp only [Act.put, zqA, zqB, zqC])
  first | (refine wpL_pick_and rfl rfl rfl rfl rfl ?_) | (refine wpL_pick_or rfl rfl rfl rfl rfl ?_)
  try simp only [Act.put, zqA, zqB, zqC]
  (refine wpL_read (v := ?_) rfl ?_ ?_; rotate_left 1; (go_simp; first | done | rfl))
  try simp only [Act.put, zqA, zqB, zqC]
  refine wpList_nil ?_
  try go_simp
  go_upto_region 2 with (fail)
  refine wp_region_lit ?_
  iterate 4 ((refine wpL_read (v := ?_) rfl ?_ ?_; rotate_left 1; (go_simp; first | done | rfl)); try simp only [Act.put, zqA, zqB, zqC])
  iterate 2 ((refine wpL_gread (v := ?_) (c := ?_) rfl rfl rfl ?_ (fun hc => ?_) ?_; rotate_left 2; (first | exact gc_t _ | exact gc_f _ | exact gc_gt _ _ | exact gc_gf _ _); ((try simp only [gv_of hc]); (try (have hc1 := and_l hc; (try simp only [gv_of hc1]); (try (have hc2 := and_l hc1; (try simp only [gv_of hc2]))))); go_simp; first | done | rfl)); try simp only [Act.put, zqA, zqB, zqC])
  first | (refine wpL_pick_and rfl rfl rfl rfl rfl ?_) | (refine wpL_pick_or rfl rfl rfl rfl rfl ?_)
  try simp only [Act.put, zqA, zqB, zqC]
  (refine wpL_read (v := ?_) rfl ?_ ?_; rotate_left 1; (go_simp; first | done | rfl))
  try simp only [Act.put, zqA, zqB, zqC]
  iterate 7 ((refine wpL_gread (v := ?_) (c := ?_) rfl rfl rfl ?_ (fun hc => ?_) ?_; rotate_left 2; (first | exact gc_t _ | exact gc_f _ | exact gc_gt _ _ | exact gc_gf _ _); ((try simp only [gv_of hc]); (try (have hc1 := and_l hc; (try simp only [gv_of hc1]); (try (have hc2 := and_l hc1; (try simp only [gv_of hc2]))))); go_simp; first | done | rfl)); try simp only [Act.put, zqA, zqB, zqC])
  first | (refine wpL_gpick_and rfl rfl rfl rfl rfl rfl rfl ?_ ?_; (first | exact gc_t _ | exact gc_f _ | exact gc_gt _ _ | exact gc_gf _ _)) | (refine wpL_gpick_or rfl rfl rfl rfl rfl rfl rfl ?_ ?_; (first | exact gc_t _ | exact gc_f _ | exact gc_gt _ _ | exact gc_gf _ _))
  try simp only [Act.put, zqA, zqB, zqC]
  first | (refine wpL_pick_and rfl rfl rfl rfl rfl ?_) | (refine wpL_pick_or rfl rfl rfl rfl rfl ?_)
  try simp only [Act.put, zqA, zqB, zqC]
  (refine wpL_read (v := ?_) rfl ?_ ?_; rotate_left 1; (go_simp; first | done | rfl))
  try simp only [Act.put, zqA, zqB, zqC]
  iterate 6 ((refine wpL_gread (v := ?_) (c := ?_) rfl rfl rfl ?_ (fun hc => ?_) ?_; rotate_left 2; (first | exact gc_t _ | exact gc_f _ | exact gc_gt _ _ | exact gc_gf _ _); ((try simp only [gv_of hc]); (try (have hc1 := and_l hc; (try simp only [gv_of hc1]); (try (have hc2 := and_l hc1; (try simp only [gv_of hc2]))))); go_simp; first | done | rfl)); try simp only [Act.put, zqA, zqB, zqC])
  first | (refine wpL_gpick_and rfl rfl rfl rfl rfl rfl rfl ?_ ?_; (first | exact gc_t _ | exact gc_f _ | exact gc_gt _ _ | exact gc_gf _ _)) | (refine wpL_gpick_or rfl rfl rfl rfl rfl rfl rfl ?_ ?_; (first | exact gc_t _ | exact gc_f _ | exact gc_gt _ _ | exact gc_gf _ _))
  try simp only [Act.put, zqA, zqB, zqC]
  first | (refine wpL_pick_and rfl rfl rfl rfl rfl ?_) | (refine wpL_pick_or rfl rfl rfl rfl rfl ?_)
  try simp only [Act.put, zqA, zqB, zqC]
  (refine wpL_read (v := ?_) rfl ?_ ?_; rotate_left 1; (go_simp; first | done | rfl))
  try simp only [Act.put, zqA, zqB, zqC]
  iterate 7 ((refine wpL_gread (v := ?_) (c := ?_) rfl rfl rfl ?_ (fun hc => ?_) ?_; rotate_left 2; (first | exact gc_t _ | exact gc_f _ | exact gc_gt _ _ | exact gc_gf _ _); ((try simp only [gv_of hc]); (try (have hc1 := and_l hc; (try simp only [gv_of hc1]); (try (have hc2 := and_l hc1; (try simp only [gv_of hc2]))))); go_simp; first | done | rfl)); try simp only [Act.put, zqA, zqB, zqC])
  first | (refine wpL_gpick_and rfl rfl rfl rfl rfl rfl rfl ?_ ?_; (first | exact gc_t _ | exact gc_f _ | exact gc_gt _ _ | exact gc_gf _ _)) | (refine wpL_gpick_or rfl rfl rfl rfl rfl rfl rfl ?_ ?_; (first | exact gc_t _ | exact gc_f _ | exact gc_gt _ _ | exact gc_gf _ _))
  try simp only [Act.put, zqA, zqB, zqC]
  first | (refine wpL_pick_and rfl rfl rfl rfl rfl ?_) | (refine wpL_pick_or rfl rfl rfl rfl rfl ?_)
  try simp only [Act.put, zqA, zqB, zqC]
  refine wpList_nil ?_
  try go_simp
  go_wp2_with (go_at_call 70; refine (refNumRight_any _ _ _ hm).mono ?_; rintro e w' ⟨rfl, hb⟩; obtain ⟨os, d, rfl⟩ := hb.more)
  all_goals (go_ret; refine ⟨ret_bool ?_, by repeat (first | exact Ext.refl _ | apply Ext.drew | apply Ext.alloc | apply Ext.more_)⟩)
  all_goals rw [← HR.out]
  · exact refRight_bad (by assumption)
  all_goals rw [refRight_good (by assumption)]
  all_goals simp_all
  all_goals omega
end Go.Proofs.YtfpaalkllfbeoaaGreatDoor
namespace Go.Proofs.YtfpaalkllfbeoaaGreatDoor
open Go.RowKit
def fitsB (r c : Int) : Bool := decide (1 ≤ r) && decide (1 ≤ c) && decide (r ≤ 4096) && decide (c ≤ 4096 / r)
theorem fits_mul {r c : Int} (h : fitsB r c = true) : 1 ≤ r ∧ 1 ≤ c ∧ r ≤ 4096 ∧ c ≤ 4096 ∧ 1 ≤ r * c ∧ r * c ≤ 4096 := by
  simp only [fitsB, Bool.and_eq_true, decide_eq_true_eq] at h
  obtain ⟨⟨⟨h1, h2⟩, h3⟩, h4⟩ := h
  have h5 : r * (4096 / r) ≤ 4096 := Int.mul_ediv_self_le (by omega)
  have h6 : r * c ≤ r * (4096 / r) := Int.mul_le_mul_of_nonneg_left h4 (by omega)
  have h7 : c ≤ 4096 := by have := Int.ediv_le_self (a := 4096) r (by omega); omega
  have h8 : 1 * 1 ≤ r * c := Int.mul_le_mul h1 h2 (by omega) (by omega)
  exact ⟨h1, h2, h3, h7, by omega, by omega⟩
set_option maxHeartbeats 400000 in
theorem fits_any (r c : Int) (w : World) :
    Calls Tryz.prog 74 #[.int .i64 r, .int .i64 c] w fun e w' => e = .returned (.bool (fitsB r c)) ∧ w = w' := by
  by_cases h1 : 1 ≤ r
  · by_cases h2 : 1 ≤ c
    · by_cases h3 : r ≤ 4096
      · have e : fitsB r c = decide (c ≤ 4096 / r) := by simp [fitsB, h1, h2, h3]
        rw [e]
        go_enter Tryz.func74, Tryz.ntmps74
        go_wp2
        go_ret
        exact ⟨rfl, rfl⟩
      · have e : fitsB r c = false := by simp [fitsB, h3]
        rw [e]
        go_enter Tryz.func74, Tryz.ntmps74
        go_wp2
        go_ret
        exact ⟨rfl, rfl⟩
    · have e : fitsB r c = false := by simp [fitsB, h2]
      rw [e]
      go_enter Tryz.func74, Tryz.ntmps74
      go_wp2
      go_ret
      exact ⟨rfl, rfl⟩
  · have e : fitsB r c = false := by simp [fitsB, h1]
    rw [e]
    go_enter Tryz.func74, Tryz.ntmps74
    go_wp2
    go_ret
    exact ⟨rfl, rfl⟩
/-- An array as it comes in or goes from call to call. -/
structure ArrIn (w : World) (A : Option Addr) (n cap : Nat) (l : List Val) : Prop where
  rd : SlV 0 w A l
  len : l.length = n
  cap : n ≤ cap
  small : n ≤ 9223372036854775807
  ok : ∀ x ∈ l, x.ok
theorem ArrIn.ext {w w' : World} {A : Option Addr} {n cap : Nat} {l : List Val} (h : ArrIn w A n cap l) (hb : Ext w w') : ArrIn w' A n cap l := ⟨h.rd.ext hb, h.len, h.cap, h.small, h.ok⟩
theorem ArrIn.at {w : World} {A : Option Addr} {n cap : Nat} {l : List Val} (h : ArrIn w A n cap l) {k : Nat} (hk : k < n) :
    ∃ x b off, l[k]? = some x ∧ x.ok ∧ A = some ⟨b, off, none⟩ ∧ ValAt w b (off + k * 6) x := by
  have hl : k < l.length := by rw [h.len]; exact hk
  obtain ⟨b, off, hA, _, hv⟩ := h.rd.at (List.getElem?_eq_getElem hl)
  exact ⟨l[k], b, off, List.getElem?_eq_getElem hl, h.ok _ (List.getElem_mem hl), hA, hv⟩
def rightA (r c : Int) (l : List Val) : Bool := fitsB r c && decide ((l.length : Int) = r * c) && l.all valRight
set_option maxHeartbeats 400000 in
theorem right_any (r c : Int) (A : Option Addr) (n cap : Nat) (l : List Val) (w : World) (h : ArrIn w A n cap l) :
    Calls Tryz.prog 33 #[AV r c (.slice A n cap)] w fun e w' => e = .returned (.bool (rightA r c l)) ∧ Ext w w' := by
  have hsm := h.small
  by_cases hf : fitsB r c = true
  · obtain ⟨f1, f2, f3, f4, f5, f6⟩ := fits_mul hf
    have hw : IntKind.i64.wrap (r * c) = r * c := by rw [IntKind.wrap_i64]; omega
    by_cases hn : (n : Int) = r * c
    · have e : rightA r c l = l.all valRight := by simp [rightA, hf, h.len, hn]
      generalize hR : rightA r c l = R at *
      have HR := Lib.hid e
      clear e hR
      have hn' : ((n : Int) != r * c) = false := by simp [hn]
      have HN := Lib.hid hn
      clear hn
      go_enter Tryz.func33, Tryz.ntmps33
      go_wp2_with (go_at_call 74; refine (fits_any _ _ _).mono ?_; rintro e w' ⟨rfl, rfl⟩)
      go_loopw [24] (fun i wr => ∃ (k : Nat) (os : Array Obj) (d : Nat), k ≤ n ∧ i = .int .i64 k ∧ wr = more (w.alloc (Obj.cells #[.int .i64 r, .int .i64 c, .slice A n cap] 31)) os d ∧ Hid (∀ j x, j < k → l[j]? = some x → valRight x = true)) (fun i _ => n - (intOf i).toNat)
      case atStart => exact ⟨0, #[], _, Nat.zero_le _, rfl, (more_none _).symm, fun j x hj => absurd hj (Nat.not_lt_zero _)⟩
      case round =>
        obtain ⟨k, os, d, hk, rfl, rfl, H⟩ := hrel
        by_cases hlt : k < n
        · obtain ⟨x, b, off, hx, hxo, rfl, hv⟩ := h.at hlt
          obtain ⟨v0, v1, v2, v3, v4, v5⟩ := hv
          have hbl : b < w.heap.size := lt_of_cell v0
          by_cases hvr : valRight x = true
          · go_wp2_with (go_at_call 75; refine (valRight_any _ _ _ _ _ _ _ hxo.2.1 hxo.2.2.2.1).mono ?_; rintro e w' ⟨rfl, hb⟩; obtain ⟨os', d', rfl⟩ := hb.more)
            refine ⟨⟨k + 1, _, _, by omega, by go_num, rfl, ?_⟩, by simp [intOf]; omega⟩
            intro j y hj hy
            by_cases hjk : j = k
            · subst hjk
              obtain rfl : x = y := by rw [hx] at hy; simpa using hy
              exact hvr
            · exact H.out j y (by omega) hy
          · have hvr' : valRight x = false := by simpa using hvr
            have hR : R = false := by
              rw [HR.out]
              exact List.all_eq_false.2 ⟨x, List.mem_of_getElem? hx, hvr⟩
            have HR2 := Lib.hid hR
            clear hR hvr
            go_wp2_with (go_at_call 75; refine (valRight_any _ _ _ _ _ _ _ hxo.2.1 hxo.2.2.2.1).mono ?_; rintro e w' ⟨rfl, hb⟩; obtain ⟨os', d', rfl⟩ := hb.more)
            go_ret
            exact ⟨ret_bool HR2.out.symm, by repeat (first | exact Ext.refl _ | apply Ext.drew | apply Ext.alloc | apply Ext.more_)⟩
        · have hR : R = true := by
            rw [HR.out]
            refine List.all_eq_true.2 fun x hx => ?_
            obtain ⟨j, hj, rfl⟩ := List.getElem_of_mem hx
            exact H.out j _ (by have := h.len; omega) (List.getElem?_eq_getElem hj)
          have HR2 := Lib.hid hR
          clear hR
          go_wp2
          go_ret
          exact ⟨ret_bool HR2.out.symm, by repeat (first | exact Ext.refl _ | apply Ext.drew | apply Ext.alloc | apply Ext.more_)⟩
    · have e : rightA r c l = false := by simp [rightA, h.len, hn]
      rw [e]; clear e
      have hn' : ((n : Int) != r * c) = true := by simp [hn]
      clear hn
      go_enter Tryz.func33, Tryz.ntmps33
      go_wp2_with (go_at_call 74; refine (fits_any _ _ _).mono ?_; rintro e w' ⟨rfl, rfl⟩)
      go_ret
      exact ⟨rfl, by repeat (first | exact Ext.refl _ | apply Ext.drew | apply Ext.alloc | apply Ext.more_)⟩
  · have e : rightA r c l = false := by simp [rightA, hf]
    have hf' : fitsB r c = false := by simpa using hf
    rw [e]; clear e hf
    go_enter Tryz.func33, Tryz.ntmps33
    go_wp2_with (go_at_call 74; refine (fits_any _ _ _).mono ?_; rintro e w' ⟨rfl, rfl⟩)
    go_ret
    exact ⟨rfl, by repeat (first | exact Ext.refl _ | apply Ext.drew | apply Ext.alloc | apply Ext.more_)⟩
/-- counterpaneref09.Right. -/
def refRightA (r c : Int) (l : List Val) : Bool :=
  decide (1 ≤ r) && decide (1 ≤ c) && decide (r ≤ 4096) && decide (c ≤ 4096) && decide (r * c ≤ 4096) && decide ((l.length : Int) = r * c) && l.all refRight
theorem rightA_eq (r c : Int) (l : List Val) (h : ∀ x ∈ l, x.ok) : rightA r c l = refRightA r c l := by
  have h1 : l.all valRight = l.all refRight := by
    rw [Bool.eq_iff_iff]
    simp only [List.all_eq_true]
    exact ⟨fun k x hx => by rw [← right_eq x (h x hx)]; exact k x hx, fun k x hx => by rw [right_eq x (h x hx)]; exact k x hx⟩
  unfold rightA refRightA
  rw [h1]
  by_cases hf : fitsB r c = true
  · obtain ⟨f1, f2, f3, f4, f5, f6⟩ := fits_mul hf
    simp [hf, f1, f2, f3, f4, f6]
  · have hf' : fitsB r c = false := by simpa using hf
    simp only [hf', Bool.false_and]
    by_cases h1 : 1 ≤ r <;> simp [h1]
    by_cases h2 : 1 ≤ c <;> simp [h2]
    by_cases h3 : r ≤ 4096 <;> simp [h3]
    intro h4 h5
    exfalso
    simp [fitsB, h1, h2, h3] at hf'
    have h6 : 4096 / r + 1 ≤ c := by omega
    have h7 : r * (4096 / r + 1) ≤ r * c := Int.mul_le_mul_of_nonneg_left h6 (by omega)
    have h8 := Int.lt_mul_ediv_self_add (x := 4096) (k := r) (by omega)
    rw [Int.mul_add] at h7
    omega
end Go.Proofs.YtfpaalkllfbeoaaGreatDoor
namespace Go.Proofs.YtfpaalkllfbeoaaGreatDoor
open Go.RowKit
theorem wrap_small {r c : Int} (h1 : 1 ≤ r) (h2 : 1 ≤ c) (h3 : r ≤ 4096) (h4 : c ≤ 4096) : IntKind.i64.wrap (r * c) = r * c := by
  have h5 : 1 * 1 ≤ r * c := Int.mul_le_mul h1 h2 (by omega) (by omega)
  have h6 : r * c ≤ 4096 * 4096 := Int.mul_le_mul h3 h4 (by omega) (by omega)
  rw [IntKind.wrap_i64]; omega
theorem refRightA_bad {r c : Int} {n : Nat} {l : List Val} (hl : l.length = n) (h : ((((r < 1 ∨ c < 1) ∨ 4096 < r) ∨ 4096 < c) ∨ 4096 < IntKind.i64.wrap (r * c)) ∨ ((n : Int) != IntKind.i64.wrap (r * c)) = true) : refRightA r c l = false := by
  by_cases h1 : 1 ≤ r
  · by_cases h2 : 1 ≤ c
    · by_cases h3 : r ≤ 4096
      · by_cases h4 : c ≤ 4096
        · rw [wrap_small h1 h2 h3 h4] at h
          rcases h with (((h | h) | h) | h) | h
          · omega
          · omega
          · omega
          · have h5 : ¬ r * c ≤ 4096 := by omega
            simp [refRightA, h5]
          · have h5 : ¬ (l.length : Int) = r * c := by rw [hl]; simpa using h
            simp [refRightA, h5]
        · simp [refRightA, h4]
      · simp [refRightA, h3]
    · simp [refRightA, h2]
  · simp [refRightA, h1]
theorem refRightA_good {r c : Int} {n : Nat} {l : List Val} (hl : l.length = n) (h : ((((1 ≤ r ∧ 1 ≤ c) ∧ r ≤ 4096) ∧ c ≤ 4096) ∧ IntKind.i64.wrap (r * c) ≤ 4096) ∧ ((n : Int) != IntKind.i64.wrap (r * c)) = false) : refRightA r c l = l.all refRight := by
  obtain ⟨⟨⟨⟨⟨h1, h2⟩, h3⟩, h4⟩, h5⟩, h6⟩ := h
  rw [wrap_small h1 h2 h3 h4] at h5 h6
  have h7 : (l.length : Int) = r * c := by rw [hl]; simpa using h6
  simp [refRightA, h1, h2, h3, h4, h5, h7]
theorem more_alloc (w : World) (os : Array Obj) (d : Nat) (o : Obj) : (more w os d).alloc o = more w (os.push o) d := by
  simp [more, World.alloc]
set_option maxHeartbeats 400000 in
theorem refRightA_any (r c : Int) (A : Option Addr) (n cap : Nat) (l : List Val) (w : World) (h : ArrIn w A n cap l) :
    Calls Tryz.prog 16 #[AV r c (.slice A n cap)] w fun e w' => e = .returned (.bool (refRightA r c l)) ∧ Ext w w' := by
  have hsm := h.small
  generalize hR : refRightA r c l = R
  have HR := Lib.hid hR
  clear hR
  go_enter Tryz.func16, Tryz.ntmps16
  go_upto_region 1 with (fail)
  refine wp_region_lit ?_
  iterate 4 ((refine wpL_read (v := ?_) rfl ?_ ?_; rotate_left 1; (go_simp; first | done | rfl)); try simp only [Act.put, zqA, zqB, zqC])
  iterate 3 ((refine wpL_gread (v := ?_) (c := ?_) rfl rfl rfl ?_ (fun hc => ?_) ?_; rotate_left 2; (first | exact gc_t _ | exact gc_f _ | exact gc_gt _ _ | exact gc_gf _ _); ((try simp only [gv_of hc]); (try (have hc1 := and_l hc; (try simp only [gv_of hc1]); (try (have hc2 := and_l hc1; (try simp only [gv_of hc2]))))); go_simp; first | done | rfl)); try simp only [Act.put, zqA, zqB, zqC])
  first | (refine wpL_pick_and rfl rfl rfl rfl rfl ?_) | (refine wpL_pick_or rfl rfl rfl rfl rfl ?_)
  try simp only [Act.put, zqA, zqB, zqC]
  (refine wpL_read (v := ?_) rfl ?_ ?_; rotate_left 1; (go_simp; first | done | rfl))
  try simp only [Act.put, zqA, zqB, zqC]
  iterate 3 ((refine wpL_gread (v := ?_) (c := ?_) rfl rfl rfl ?_ (fun hc => ?_) ?_; rotate_left 2; (first | exact gc_t _ | exact gc_f _ | exact gc_gt _ _ | exact gc_gf _ _); ((try simp only [gv_of hc]); (try (have hc1 := and_l hc; (try simp only [gv_of hc1]); (try (have hc2 := and_l hc1; (try simp only [gv_of hc2]))))); go_simp; first | done | rfl)); try simp only [Act.put, zqA, zqB, zqC])
  first | (refine wpL_pick_and rfl rfl rfl rfl rfl ?_) | (refine wpL_pick_or rfl rfl rfl rfl rfl ?_)
  try simp only [Act.put, zqA, zqB, zqC]
  (refine wpL_read (v := ?_) rfl ?_ ?_; rotate_left 1; (go_simp; first | done | rfl))
  try simp only [Act.put, zqA, zqB, zqC]
  iterate 3 ((refine wpL_gread (v := ?_) (c := ?_) rfl rfl rfl ?_ (fun hc => ?_) ?_; rotate_left 2; (first | exact gc_t _ | exact gc_f _ | exact gc_gt _ _ | exact gc_gf _ _); ((try simp only [gv_of hc]); (try (have hc1 := and_l hc; (try simp only [gv_of hc1]); (try (have hc2 := and_l hc1; (try simp only [gv_of hc2]))))); go_simp; first | done | rfl)); try simp only [Act.put, zqA, zqB, zqC])
  first | (refine wpL_pick_and rfl rfl rfl rfl rfl ?_) | (refine wpL_pick_or rfl rfl rfl rfl rfl ?_)
  try simp only [Act.put, zqA, zqB, zqC]
  (refine wpL_read (v := ?_) rfl ?_ ?_; rotate_left 1; (go_simp; first | done | rfl))
  try simp only [Act.put, zqA, zqB, zqC]
  iterate 6 ((refine wpL_gread (v := ?_) (c := ?_) rfl rfl rfl ?_ (fun hc => ?_) ?_; rotate_left 2; (first | exact gc_t _ | exact gc_f _ | exact gc_gt _ _ | exact gc_gf _ _); ((try simp only [gv_of hc]); (try (have hc1 := and_l hc; (try simp only [gv_of hc1]); (try (have hc2 := and_l hc1; (try simp only [gv_of hc2]))))); go_simp; first | done | rfl)); try simp only [Act.put, zqA, zqB, zqC])
  first | (refine wpL_pick_and rfl rfl rfl rfl rfl ?_) | (refine wpL_pick_or rfl rfl rfl rfl rfl ?_)
  try simp only [Act.put, zqA, zqB, zqC]
  (refine wpL_read (v := ?_) rfl ?_ ?_; rotate_left 1; (go_simp; first | done | rfl))
  try simp only [Act.put, zqA, zqB, zqC]
  iterate 9 ((refine wpL_gread (v := ?_) (c := ?_) rfl rfl rfl ?_ (fun hc => ?_) ?_; rotate_left 2; (first | exact gc_t _ | exact gc_f _ | exact gc_gt _ _ | exact gc_gf _ _); ((try simp only [gv_of hc]); (try (have hc1 := and_l hc; (try simp only [gv_of hc1]); (try (have hc2 := and_l hc1; (try simp only [gv_of hc2]))))); go_simp; first | done | rfl)); try simp only [Act.put, zqA, zqB, zqC])
  first | (refine wpL_pick_and rfl rfl rfl rfl rfl ?_) | (refine wpL_pick_or rfl rfl rfl rfl rfl ?_)
  try simp only [Act.put, zqA, zqB, zqC]
  refine wpList_nil ?_
  try go_simp
  go_wp2
  · go_ret
    refine ⟨ret_bool ?_, by repeat (first | exact Ext.refl _ | apply Ext.drew | apply Ext.alloc | apply Ext.more_)⟩
    rw [← HR.out]
    symm
    exact refRightA_bad h.len (by assumption)
  · rename_i hgood _ _
    have HR' := Lib.hid (refRightA_good h.len hgood)
    clear hgood
    go_loopw [3] (fun i wr => ∃ (k : Nat) (os : Array Obj) (d : Nat), k ≤ n ∧ i = .int .i64 k ∧ wr = more (w.alloc (Obj.cells #[.int .i64 r, .int .i64 c, .slice A n cap] 31)) os d ∧ Hid (∀ j x, j < k → l[j]? = some x → refRight x = true)) (fun i _ => n - (intOf i).toNat)
    case atStart => exact ⟨0, #[], _, Nat.zero_le _, rfl, (more_none _).symm, fun j x hj => absurd hj (Nat.not_lt_zero _)⟩
    case round =>
      obtain ⟨k, os, d, hk, rfl, rfl, H⟩ := hrel
      by_cases hlt : k < n
      · obtain ⟨x, b, off, hx, hxo, rfl, hv⟩ := h.at hlt
        obtain ⟨v0, v1, v2, v3, v4, v5⟩ := hv
        have hbl : b < w.heap.size := lt_of_cell v0
        by_cases hvr : refRight x = true
        · go_wp2_with (go_at_call 30; refine (refRight_any _ _ _ _ _ _ _ hxo.2.1 hxo.2.2.2.1).mono ?_; rintro e w' ⟨rfl, hb⟩; obtain ⟨os', d', rfl⟩ := hb.more)
          refine ⟨⟨k + 1, _, _, by omega, by go_num, rfl, ?_⟩, by simp [intOf]; omega⟩
          intro j y hj hy
          by_cases hjk : j = k
          · subst hjk
            obtain rfl : x = y := by rw [hx] at hy; simpa using hy
            exact hvr
          · exact H.out j y (by omega) hy
        · have hvr' : refRight x = false := by simpa using hvr
          have hR : R = false := by
            rw [← HR.out, HR'.out]
            exact List.all_eq_false.2 ⟨x, List.mem_of_getElem? hx, hvr⟩
          have HR2 := Lib.hid hR
          clear hR hvr
          go_wp2_with (go_at_call 30; refine (refRight_any _ _ _ _ _ _ _ hxo.2.1 hxo.2.2.2.1).mono ?_; rintro e w' ⟨rfl, hb⟩; obtain ⟨os', d', rfl⟩ := hb.more)
          go_ret
          exact ⟨ret_bool HR2.out.symm, by repeat (first | exact Ext.refl _ | apply Ext.drew | apply Ext.alloc | apply Ext.more_)⟩
      · have hR : R = true := by
          rw [← HR.out, HR'.out]
          refine List.all_eq_true.2 fun x hx => ?_
          obtain ⟨j, hj, rfl⟩ := List.getElem_of_mem hx
          exact H.out j _ (by have := h.len; omega) (List.getElem?_eq_getElem hj)
        have HR2 := Lib.hid hR
        clear hR
        go_wp2
        go_ret
        exact ⟨ret_bool HR2.out.symm, by repeat (first | exact Ext.refl _ | apply Ext.drew | apply Ext.alloc | apply Ext.more_)⟩
set_option maxHeartbeats 400000 in
theorem small_any (r c : Int) (A : Option Addr) (n cap : Nat) (l : List Val) (w : World) (h : ArrIn w A n cap l) :
    Calls Tryz.prog 28 #[AV r c (.slice A n cap)] w fun e w' => ∃ s : Int, e = .returned (.int .i64 s) ∧ (s = 0 ∨ (s = 1 ∧ n ≤ 300 ∧ ∀ x ∈ l, x.text.size ≤ 300)) ∧ Ext w w' := by
  have hsm := h.small
  by_cases hn : 300 < n
  · go_enter Tryz.func28, Tryz.ntmps28
    go_wp2
    go_ret
    exact ⟨0, rfl, .inl rfl, by repeat (first | exact Ext.refl _ | apply Ext.drew | apply Ext.alloc | apply Ext.more_)⟩
  · go_enter Tryz.func28, Tryz.ntmps28
    go_wp2
    go_loopw [12] (fun i wr => ∃ (k : Nat) (os : Array Obj) (d : Nat), k ≤ n ∧ i = .int .i64 k ∧ wr = more (w.alloc (Obj.cells #[.int .i64 r, .int .i64 c, .slice A n cap] 31)) os d ∧ Hid (∀ j x, j < k → l[j]? = some x → x.text.size ≤ 300)) (fun i _ => n - (intOf i).toNat)
    case atStart => exact ⟨0, #[], _, Nat.zero_le _, rfl, (more_none _).symm, fun j x hj => absurd hj (Nat.not_lt_zero _)⟩
    case round =>
      obtain ⟨k, os, d, hk, rfl, rfl, H⟩ := hrel
      by_cases hlt : k < n
      · obtain ⟨x, b, off, hx, hxo, rfl, hv⟩ := h.at hlt
        obtain ⟨v0, v1, v2, v3, v4, v5⟩ := hv
        have hbl : b < w.heap.size := lt_of_cell v0
        by_cases ht : 300 < x.text.size
        · have hxs := hxo.2.2.2.1
          go_wp2
          go_ret
          exact ⟨0, rfl, .inl rfl, by repeat (first | exact Ext.refl _ | apply Ext.drew | apply Ext.alloc | apply Ext.more_)⟩
        · go_wp2
          refine ⟨⟨k + 1, _, _, by omega, by go_num, more_alloc _ _ _ _, ?_⟩, by simp [intOf]; omega⟩
          intro j y hj hy
          by_cases hjk : j = k
          · subst hjk
            obtain rfl : x = y := by rw [hx] at hy; simpa using hy
            omega
          · exact H.out j y (by omega) hy
      · go_wp2
        go_ret
        refine ⟨1, rfl, .inr ⟨rfl, by omega, fun x hx => ?_⟩, by repeat (first | exact Ext.refl _ | apply Ext.drew | apply Ext.alloc | apply Ext.more_)⟩
        obtain ⟨j, hj, rfl⟩ := List.getElem_of_mem hx
        exact H.out j _ (by have := h.len; omega) (List.getElem?_eq_getElem hj)
end Go.Proofs.YtfpaalkllfbeoaaGreatDoor
namespace Go.Proofs.YtfpaalkllfbeoaaGreatDoor
open Go.RowKit
theorem SlV.one {w : World} {n base : Nat} {k m e : Int} {t : ByteArray} {b : Bool} {f : Int} {ty : TypeId} (hn : n = w.heap.size) (hb : base ≤ n) :
    SlV base (w.alloc (.cells #[.int .i64 k, .int .i64 m, .int .i64 e, .string t, .bool b, .int .i64 f] ty)) (some ⟨n, 0, none⟩) [⟨k, m, e, t, b, f⟩] := fun j u hu => by
  refine ⟨n, 0, rfl, hb, ?_⟩
  rw [World.cell?_alloc_at _ _ _ _ hn, Nat.zero_add, ← hu]
  simp only [vcells, Val.cells, List.flatMap_cons, List.flatMap_nil, List.append_nil]
  simp
/-- What a call hands back: an array in new memory. -/
def ArrO (base : Nat) (w' : World) (e : Ending) (r c : Int) (l : List Val) : Prop :=
  ∃ A cap, e = .returned (AV r c (.slice A l.length cap)) ∧ SlV base w' A l ∧ l.length ≤ cap
def badV (f : Int) : Val := ⟨4, 0, 0, ⟨#[]⟩, false, f⟩
set_option maxHeartbeats 400000 in
theorem refBad_any (f : Int) (w : World) :
    Calls Tryz.prog 23 #[.int .i64 f] w fun e w' => ArrO w.heap.size w' e 1 1 [badV f] ∧ Ext w w' := by
  go_enter Tryz.func23, Tryz.ntmps23
  go_wp2
  refine bodyPost_ret (v := AV 1 1 (.slice (some ⟨w.heap.size + 1, 0, none⟩) 1 1)) (by simp [results, Tryz.results23, go_sem]) rfl ⟨⟨_, _, rfl, ?_, Nat.le_refl _⟩, by repeat (first | exact Ext.refl _ | apply Ext.drew | apply Ext.alloc | apply Ext.more_)⟩
  exact SlV.one (by simp) (by simp)
set_option maxHeartbeats 400000 in
theorem one_right (k m ex f : Int) (t : ByteArray) (b : Bool) (w : World) (hm : I64 m) (ht : t.size ≤ 9223372036854775807) (hr : valRight ⟨k, m, ex, t, b, f⟩ = true) :
    Calls Tryz.prog 39 #[VV k m ex t b f] w fun e w' => ArrO w.heap.size w' e 1 1 [⟨k, m, ex, t, b, f⟩] ∧ Ext w w' := by
  go_enter Tryz.func39, Tryz.ntmps39
  go_wp2_with (go_at_call 75; refine (valRight_any _ _ _ _ _ _ _ hm ht).mono ?_; rintro e w' ⟨rfl, hb⟩; obtain ⟨os, d, rfl⟩ := hb.more)
  refine bodyPost_ret (v := AV 1 1 (.slice (some ⟨w.heap.size + 1 + 1 + os.size, 0, none⟩) 1 1)) (by simp [results, Tryz.results39, go_sem]) rfl ⟨⟨_, _, rfl, ?_, Nat.le_refl _⟩, by repeat (first | exact Ext.refl _ | apply Ext.drew | apply Ext.alloc | apply Ext.more_)⟩
  exact SlV.one (by simp) (by omega)
theorem valRight_bad (f : Int) (h : 1 ≤ f ∧ f ≤ 9) : valRight (badV f) = true := by
  have hb : badF f = f := by unfold badF; rw [if_neg (by omega)]
  simp [valRight, badV, hb, eqV]
end Go.Proofs.YtfpaalkllfbeoaaGreatDoor
namespace Go.Proofs.YtfpaalkllfbeoaaGreatDoor
open Go.RowKit NM
/-- value.ToNum: the number, and the fault. -/
def tnP (v : Val) : Int × Int := if v.kind = 1 then (v.mant, v.exp) else if v.kind = 2 then (parS v.text).getD (0, 0) else if v.kind = 3 ∧ v.truth = true then (1, 0) else (0, 0)
def tnF (v : Val) : Int := if v.kind = 2 then (if (parS v.text).isSome then 0 else 2) else if v.kind = 4 then v.fault else 0
def bad_ (f : Int) : Val := badV (badF f)
def truthV (b : Bool) : Val := ⟨3, 0, 0, ⟨#[]⟩, b, 0⟩
def Val.right (x : Val) : Prop := valRight x = true
theorem right_num {m e : Int} (h : Rt m e) : Val.right ⟨1, m, e, ⟨#[]⟩, false, 0⟩ := by
  unfold Val.right valRight
  rw [if_neg (show ¬ (1 : Int) = 0 by decide), if_pos rfl, Bool.and_eq_true]
  exact ⟨by rw [numRight_Rt]; exact decide_eq_true h, decide_eq_true rfl⟩
theorem badF_bd (f : Int) : 1 ≤ badF f ∧ badF f ≤ 9 := by unfold badF; split <;> omega
theorem right_bad (f : Int) : (bad_ f).right := valRight_bad _ (badF_bd f)
theorem Val.right.rt {x : Val} (h : x.right) (h1 : x.kind = 1) : Rt x.mant x.exp := by
  have := (right_cases h).2.1 h1
  rw [numRight_Rt] at this
  exact of_decide_eq_true this
/-- What a right value is, written out. -/
theorem Val.right.form {x : Val} (h : x.right) : x = Val.only 0 ∨ (∃ m e, x = ⟨1, m, e, ⟨#[]⟩, false, 0⟩ ∧ Rt m e) ∨ (∃ t, x = ⟨2, 0, 0, t, false, 0⟩ ∧ t.size ≤ 255) ∨ (∃ b, x = truthV b) ∨ (∃ f, x = badV f ∧ 1 ≤ f ∧ f ≤ 9) := by
  have hc := right_cases h
  unfold Val.right valRight at h
  by_cases h0 : x.kind = 0
  · exact Or.inl (hc.1.2 h0)
  · rw [if_neg h0] at h
    by_cases h1 : x.kind = 1
    · rw [if_pos h1, Bool.and_eq_true, numRight_Rt] at h
      exact Or.inr (Or.inl ⟨x.mant, x.exp, of_decide_eq_true h.2, of_decide_eq_true h.1⟩)
    · rw [if_neg h1] at h
      by_cases h2 : x.kind = 2
      · rw [if_pos h2] at h
        have h3 := hc.2.2.1 h2
        refine Or.inr (Or.inr (Or.inl ⟨x.text, ?_, h3⟩))
        have := of_decide_eq_true h
        unfold textV at this
        rw [if_neg (by omega)] at this
        exact this
      · rw [if_neg h2] at h
        by_cases h3 : x.kind = 3
        · rw [if_pos h3] at h
          exact Or.inr (Or.inr (Or.inr (Or.inl ⟨x.truth, of_decide_eq_true h⟩)))
        · rw [if_neg h3] at h
          by_cases h4 : x.kind = 4
          · rw [if_pos h4] at h
            have hf := hc.2.2.2 h4
            refine Or.inr (Or.inr (Or.inr (Or.inr ⟨x.fault, ?_, hf⟩)))
            have := of_decide_eq_true h
            rw [show badF x.fault = x.fault by unfold badF; rw [if_neg (by omega)]] at this
            exact this
          · rw [if_neg h4] at h; cases h
theorem i64_small {n : Int} (h : -1000 ≤ n ∧ n ≤ 1000) : I64 n := by unfold I64; omega
theorem Val.right.ok {x : Val} (h : x.right) : x.ok := by
  have z : I64 0 := i64_small (by decide)
  have s0 : (0 : Nat) ≤ 9223372036854775807 := Nat.zero_le _
  rcases h.form with rfl | ⟨m, e, rfl, hr⟩ | ⟨t, rfl, ht⟩ | ⟨b, rfl⟩ | ⟨f, rfl, hf⟩
  · exact ⟨z, z, z, s0, z⟩
  · obtain ⟨r1, r2⟩ := Rt_i64 hr
    exact ⟨i64_small (n := 1) (by decide), r1, r2, s0, z⟩
  · exact ⟨i64_small (n := 2) (by decide), z, z, Nat.le_trans ht (by decide), z⟩
  · exact ⟨i64_small (n := 3) (by decide), z, z, s0, z⟩
  · exact ⟨i64_small (n := 4) (by decide), z, z, s0, i64_small (n := f) (by omega)⟩
theorem rt_zero : Rt 0 0 := Or.inl ⟨rfl, rfl⟩
theorem par_rt {s : ByteArray} {p : Int × Int} (h : parS s = some p) : Rt p.1 p.2 := by
  unfold parS at h
  by_cases hl : 255 < s.size
  · rw [if_pos hl] at h; cases h
  · rw [if_neg hl] at h
    unfold parM at h
    cases hr : runS (bl s) st0 with
    | none => rw [hr] at h; cases h
    | some S =>
      rw [hr, Option.bind_some] at h
      unfold endS at h
      split at h
      · exact rnd_right h
      · cases h
theorem tn_rt {x : Val} (h : x.right) : Rt (tnP x).1 (tnP x).2 := by
  rcases h.form with rfl | ⟨m, e, rfl, hr⟩ | ⟨t, rfl, ht⟩ | ⟨b, rfl⟩ | ⟨f, rfl, hf⟩
  · exact rt_zero
  · exact hr
  · show Rt ((parS t).getD (0, 0)).1 ((parS t).getD (0, 0)).2
    cases hp : parS t with
    | none => exact rt_zero
    | some p => exact par_rt hp
  · cases b
    · exact rt_zero
    · exact rt_one
  · exact rt_zero
theorem addS_rt {a b c d : Int} {p : Int × Int} (h : addS a b c d = some p) : Rt p.1 p.2 := by
  unfold addS at h
  split at h
  · exact rnd_right h
  · cases h
end Go.Proofs.YtfpaalkllfbeoaaGreatDoor
namespace Go.Proofs.YtfpaalkllfbeoaaGreatDoor
open Go.RowKit Go.Maps Go.WideMaps
/-- An element is held as it is. -/
def tabR (v : Value) : Option (DataW Value × List MemPlace) := some (.held v, [])
abbrev Tab1 := List (List UInt8 × Value)
def tabF (D : DataW Value) (L : Tab1) : DataW Value := L.foldl (fun D p => D.put (.string p.1) (.held p.2)) D
def tabD (L : Tab1) : DataW Value := tabF (.map []) L
def tabAt (L : Tab1) (s : List UInt8) : Option Value := (L.find? fun p => p.1 == s).map (·.2)
theorem tabAt_cons (k : List UInt8) (v : Value) (L : Tab1) (s : List UInt8) : tabAt ((k, v) :: L) s = if k = s then some v else tabAt L s := by
  unfold tabAt
  by_cases h : k = s
  · rw [if_pos h, List.find?_cons_of_pos (by simpa using h)]; rfl
  · rw [if_neg h, List.find?_cons_of_neg (by simpa using h)]
theorem tabAt_none {L : Tab1} {s : List UInt8} (h : ∀ p ∈ L, p.1 ≠ s) : tabAt L s = none := by
  unfold tabAt
  rw [List.find?_eq_none.2 (fun p hp => by simpa using h p hp)]; rfl
theorem tabF_at : ∀ (L : Tab1) (D : DataW Value), IsMap D → L.Pairwise (fun p q => p.1 ≠ q.1) → ∀ (s : List UInt8) (z : DataW Value),
    (tabF D L).atKey (.string s) z = ((tabAt L s).map (fun v => DataW.held v)).getD (D.atKey (.string s) z) ∧ Maps.has (tabF D L) (.string s) = ((tabAt L s).isSome || Maps.has D (.string s))
  | [], D, _, _, s, z => ⟨rfl, rfl⟩
  | (k, v) :: L, D, hD, hp, s, z => by
    obtain ⟨h1, h2⟩ := List.pairwise_cons.1 hp
    have ih := tabF_at L (D.put (.string k) (.held v)) (hD.put _ _) h2 s z
    have e : tabF D ((k, v) :: L) = tabF (D.put (.string k) (.held v)) L := rfl
    rw [e, ih.1, ih.2, tabAt_cons]
    by_cases h : k = s
    · subst h
      rw [if_pos rfl, tabAt_none (fun p hp => (h1 p hp).symm)]
      have hkl : WideAt.IsKeyLit (Lit.string k) := trivial
      exact ⟨atKey_put_same hD hkl _ _, by rw [has_put_same hD hkl]; rfl⟩
    · have hne : Lit.string s ≠ Lit.string k := fun e => h (by injection e with e; exact e.symm)
      rw [if_neg h, atKey_put_other hne, has_put_other hne]
      exact ⟨rfl, rfl⟩
theorem tab_at (L : Tab1) (hp : L.Pairwise (fun p q => p.1 ≠ q.1)) (s : List UInt8) (z : Value) : (tabD L).atKey (.string s) (.held z) = .held ((tabAt L s).getD z) ∧ Maps.has (tabD L) (.string s) = (tabAt L s).isSome := by
  have h := tabF_at L (.map []) isMap_empty hp s (.held z)
  unfold tabD
  refine ⟨h.1.trans ?_, h.2.trans (by rw [show Maps.has (.map [] : DataW Value) (.string s) = false from rfl, Bool.or_false])⟩
  cases tabAt L s <;> rfl
/-- A table in block b. -/
def TabW (P : Program) (k : TypeId) (L : Tab1) (b : Nat) (w : World) : Prop := w.ownsMap P k tabR b L.length (tabD L)
theorem TabW.ext {P : Program} {k : TypeId} {L : Tab1} {b : Nat} {w w' : World} (h : TabW P k L b w) (hx : Ext w w') : TabW P k L b w' :=
  World.ownsMap.kept (row := none) h ⟨hx.os, hx.tape, hx.output, hx.size, fun i hi _ => hx.block hi⟩ (by simp)
theorem tab_run {P : Program} {k t e : TypeId} {L : Tab1} {b : Nat} {w : World} (h : TabW P k L b w) (hk : P.underlying k = some .string) (ht : P.underlying t = some (.map k e)) (hp : L.Pairwise (fun p q => p.1 ≠ q.1)) {z : Value} (hz : (zeroValue e).run P w = .ok z w) (s : ByteArray) (hs : s.size ≤ maxLen) :
    (Instr.lookup t (.map (some b)) (.string s) true).run P w = .ok (.tuple #[(tabAt L s.data.toList).getD z, .bool (tabAt L s.data.toList).isSome]) w := by
  obtain ⟨v, ps, h1, h2⟩ := World.ownsMap.look_ok h (string_keyed hk) ht hz (zd := .held z) (zp := []) rfl (keyOf_string_mk hk hs)
  obtain ⟨e1, e2⟩ := tab_at L hp s.data.toList z
  rw [e1] at h2
  rw [e2] at h1
  unfold tabR at h2
  simp only [Option.some.injEq, Prod.mk.injEq, DataW.held.injEq] at h2
  rw [h1, h2.1]
theorem tab_made (w : World) (P : Program) (k : TypeId) : TabW P k [] w.heap.size (w.alloc (.map #[] 0)) := World.ownsMap_made w P k tabR
/-- One entry more. -/
theorem tab_put {P : Program} {k t e : TypeId} {L : Tab1} {b : Nat} {w : World} (h : TabW P k L b w) (hk : P.underlying k = some .string) (ht : P.underlying t = some (.map k e)) (hn : L.length < maxLen) (s : ByteArray) (hs : s.size ≤ maxLen) (v : Value) :
    ∃ w', (Instr.mapUpdate t (.map (some b)) (.string s) v).run P w = .ok () w' ∧ TabW P k (L ++ [(s.data.toList, v)]) b w' ∧ w.grownBy w' (some b) := by
  obtain ⟨w', h1, h2, h3⟩ := World.ownsMap.update h (string_keyed hk) ht hn (keyOf_string_mk hk hs) (show tabR v = some (.held v, []) from rfl)
  refine ⟨w', h1, ?_, h3⟩
  unfold TabW
  rw [List.length_append]
  have : tabD (L ++ [(s.data.toList, v)]) = (tabD L).put (.string s.data.toList) (.held v) := by unfold tabD tabF; rw [List.foldl_append]; rfl
  rw [this]; exact h2
/-- A literal's entry. -/
theorem wpL_insert {P : Program} {w : World} {ops : Array Oper} {rest : List Oper} {o : Oper} {a : Act} {Q : Exit → Act → World → Prop} (hg : o.guard = none) (m x v : Operand) (t : TypeId) (hop : o.op = Op.insert t m x v)
    (k e : TypeId) (hk : P.underlying k = some .string) (ht : P.underlying t = some (.map k e)) (L : Tab1) (b : Nat) (hm : a.eval m = .map (some b)) (h : TabW P k L b w) (hn : L.length < maxLen) (s : ByteArray) (hx : a.eval x = .string s) (hs : s.size ≤ maxLen) (val : Value) (hv : a.eval v = val)
    (hK : ∀ w', TabW P k (L ++ [(s.data.toList, val)]) b w' → w.grownBy w' (some b) → wpList P ops Q rest (a.put o.dst undef) w') : wpList P ops Q (o :: rest) a w := by
  refine wpList_plain hg fun K' hK' => ?_
  obtain ⟨w', hrun, r1, r2⟩ := tab_put h hk ht hn s hs val
  unfold Oper.wp
  simp [execOp, hop, hm, hx, hv, hrun, Result.andThen]
  exact hK' _ _ (hK w' r1 r2)
/-- A table under way, and the variables that its entries lead to. -/
structure TabS (P : Program) (k : TypeId) (w0 : World) (b : Nat) (L : Tab1) (B : List (Nat × Obj)) (W : World) : Prop where
  tab : TabW P k L b W
  ext : Ext w0 W
  hb : w0.heap.size ≤ b
  box : ∀ p ∈ B, w0.heap.size ≤ p.1 ∧ p.1 ≠ b ∧ W.heap[p.1]? = some p.2
section
variable {P : Program} {k : TypeId} {w0 : World} {b : Nat} {L : Tab1} {B : List (Nat × Obj)} {W W' : World}
theorem TabS.lt (h : TabS P k w0 b L B W) : b < W.heap.size := World.ownsMap.lt h.tab
theorem TabS.put {L' : Tab1} (h : TabS P k w0 b L B W) (ht : TabW P k L' b W') (hg : W.grownBy W' (some b)) : TabS P k w0 b L' B W' := by
  have hbl : ∀ i, i < W.heap.size → i ≠ b → W'.heap[i]? = W.heap[i]? := fun i hi hne => hg.block i hi (fun e => hne (Option.some.inj e))
  refine ⟨ht, ⟨hg.os.trans h.ext.os, hg.tape.trans h.ext.tape, hg.output.trans h.ext.output, Nat.le_trans h.ext.size hg.size, fun i hi => ?_⟩, h.hb, fun p hp => ?_⟩
  · rw [hbl i (Nat.lt_of_lt_of_le hi h.ext.size) (by have := h.hb; omega)]; exact h.ext.block hi
  · obtain ⟨h0, h1, h2⟩ := h.box p hp
    refine ⟨h0, h1, ?_⟩
    rw [hbl _ ?_ h1]; exact h2
    rcases Nat.lt_or_ge p.1 W.heap.size with hl | hl
    · exact hl
    · rw [Array.getElem?_eq_none hl] at h2; cases h2
theorem TabS.later (h : TabS P k w0 b L B W) (hx : Ext W W') : TabS P k w0 b L B W' := by
  refine ⟨h.tab.ext hx, h.ext.trans hx, h.hb, fun p hp => ?_⟩
  obtain ⟨h0, h1, h2⟩ := h.box p hp
  refine ⟨h0, h1, ?_⟩
  rw [hx.block ?_]; exact h2
  rcases Nat.lt_or_ge p.1 W.heap.size with hl | hl
  · exact hl
  · rw [Array.getElem?_eq_none hl] at h2; cases h2
theorem TabS.new (h : TabS P k w0 b L B W) {o : Obj} (hx : Ext W W') (ho : W'.heap[W.heap.size]? = some o) : TabS P k w0 b L (B ++ [(W.heap.size, o)]) W' := by
  have h' := h.later hx
  refine ⟨h'.tab, h'.ext, h.hb, fun p hp => ?_⟩
  rcases List.mem_append.1 hp with hp | hp
  · exact h'.box p hp
  · obtain rfl := List.mem_singleton.1 hp
    exact ⟨h.ext.size, by have := h.lt; show W.heap.size ≠ b; omega, ho⟩
theorem TabS.start (w : World) (P : Program) (k : TypeId) : TabS P k w w.heap.size [] [] (w.alloc (.map #[] 0)) :=
  ⟨tab_made w P k, (Ext.refl _).alloc _, Nat.le_refl _, fun p hp => by cases hp⟩
end
end Go.Proofs.YtfpaalkllfbeoaaGreatDoor
namespace Go.Proofs.YtfpaalkllfbeoaaGreatDoor
open Go.RowKit
/-- An array's values in blocks from base on. -/
structure ArrN (base : Nat) (w : World) (A : Option Addr) (n cap : Nat) (l : List Val) : Prop where
  rd : SlV base w A l
  len : l.length = n
  cap : n ≤ cap
  small : n ≤ 9223372036854775807
  ok : ∀ x ∈ l, x.ok
theorem ArrN.arr {base : Nat} {w : World} {A : Option Addr} {n cap : Nat} {l : List Val} (h : ArrN base w A n cap l) : ArrIn w A n cap l := ⟨Rd.mono h.rd (Nat.zero_le _), h.len, h.cap, h.small, h.ok⟩
abbrev fn0 (fid : FuncId) : Value := .func (.func fid) #[] #[]
abbrev fn1 (fid : FuncId) (p : Nat) : Value := .func (.func fid) #[] #[.pointer (some ⟨p, 0, none⟩)]
/-- A look into the table. -/
theorem wpL_look {P : Program} {w : World} {ops : Array Oper} {rest : List Oper} {o : Oper} {a : Act} {Q : Exit → Act → World → Prop} (hg : o.guard = none) (m x : Operand) (t : TypeId) (hop : o.op = Op.lookup t m x true)
    (k e : TypeId) (hk : P.underlying k = some .string) (ht : P.underlying t = some (.map k e)) (L : Tab1) (b : Nat) (hm : a.eval m = .map (some b)) (h : TabW P k L b w) (hp : L.Pairwise (fun p q => p.1 ≠ q.1)) (z : Value) (hz : (zeroValue e).run P w = .ok z w) (s : ByteArray) (hx : a.eval x = .string s) (hs : s.size ≤ maxLen)
    (v : Value) (ok : Bool) (hv : (tabAt L s.data.toList).getD z = v) (hok : (tabAt L s.data.toList).isSome = ok) (hK : wpList P ops Q rest (a.put o.dst (.tuple #[v, .bool ok])) w) : wpList P ops Q (o :: rest) a w := by
  refine wpList_plain hg fun K' hK' => ?_
  have hrun := tab_run h hk ht hp hz s hs
  rw [hv, hok] at hrun
  unfold Oper.wp
  simp [execOp, hop, hm, hx, hrun, Result.andThen]
  exact hK' _ _ hK
end Go.Proofs.YtfpaalkllfbeoaaGreatDoor
namespace Go.Proofs.YtfpaalkllfbeoaaGreatDoor
open Go.RowKit
theorem neq_val (k1 m1 e1 f1 k2 m2 e2 f2 : Int) (t1 t2 : ByteArray) (b1 b2 : Bool) (w : World) : (binOp .neq 43 (VV k1 m1 e1 t1 b1 f1) (VV k2 m2 e2 t2 b2 f2)).run Tryz.prog w = .ok (.bool (!eqV ⟨k1, m1, e1, t1, b1, f1⟩ ⟨k2, m2, e2, t2, b2, f2⟩)) w := by
  have ht : (t1.toList = t2.toList) ↔ t1 = t2 := ⟨fun h => by
    cases t1; cases t2
    rename_i a b
    have : a.toList = b.toList := by simpa [ByteArray.toList_eq] using h
    simpa using this, fun h => by rw [h]⟩
  simp only [VV, eqV]
  simp [go_sem, ht]
  by_cases h1 : k1 = k2 <;> simp [h1]
  by_cases h2 : m1 = m2 <;> simp [h2]
  by_cases h3 : e1 = e2 <;> simp [h3]
  by_cases h4 : t1 = t2 <;> simp [h4]
  by_cases h5 : b1 = b2 <;> simp [h5]
  by_cases h6 : f1 = f2 <;> simp [h6]
/-- The first k values are alike. -/
def alike (k : Nat) (l l' : List Val) : Prop := ∀ j x y, j < k → l[j]? = some x → l'[j]? = some y → x = y
theorem alike_all {n : Nat} {l l' : List Val} (h1 : l.length = n) (h2 : l'.length = n) (h : alike n l l') : l = l' := by
  apply List.ext_getElem?
  intro i
  by_cases hi : i < n
  · have := h i l[i] l'[i] hi (List.getElem?_eq_getElem _) (List.getElem?_eq_getElem _)
    rw [List.getElem?_eq_getElem (by omega), List.getElem?_eq_getElem (by omega), this]
  · rw [List.getElem?_eq_none (by omega), List.getElem?_eq_none (by omega)]
theorem alike_succ {k : Nat} {l l' : List Val} {x : Val} (h : alike k l l') (hx : l[k]? = some x) (hy : l'[k]? = some x) : alike (k + 1) l l' := by
  intro j a b hj ha hb
  by_cases hjk : j = k
  · subst hjk
    rw [hx] at ha; rw [hy] at hb
    simp_all
  · exact h j a b (by omega) ha hb
def sameA (r c : Int) (l : List Val) (r' c' : Int) (l' : List Val) : Bool := r == r' && c == c' && decide (l = l')
set_option maxHeartbeats 400000 in
theorem refSame_any (r c r' c' : Int) (A B : Option Addr) (n cap n' cap' : Nat) (l l' : List Val) (w : World) (h : ArrIn w A n cap l) (h' : ArrIn w B n' cap' l') :
    Calls Tryz.prog 19 #[AV r c (.slice A n cap), AV r' c' (.slice B n' cap')] w fun e w' => e = .returned (.bool (sameA r c l r' c' l')) ∧ Ext w w' := by
  have hsm := h.small
  have hsm' := h'.small
  generalize hR : sameA r c l r' c' l' = R
  have HR := Lib.hid hR
  clear hR
  have hneq := neq_val
  go_enter Tryz.func19, Tryz.ntmps19
  go_upto_region 1 with (fail)
  refine wp_region_lit ?_
  iterate 6 ((refine wpL_read (v := ?_) rfl ?_ ?_; rotate_left 1; (go_simp; first | done | rfl)); try simp only [Act.put, zqA, zqB, zqC])
  iterate 5 ((refine wpL_gread (v := ?_) (c := ?_) rfl rfl rfl ?_ (fun hc => ?_) ?_; rotate_left 2; (first | exact gc_t _ | exact gc_f _ | exact gc_gt _ _ | exact gc_gf _ _); ((try simp only [gv_of hc]); (try (have hc1 := and_l hc; (try simp only [gv_of hc1]); (try (have hc2 := and_l hc1; (try simp only [gv_of hc2]))))); go_simp; first | done | rfl)); try simp only [Act.put, zqA, zqB, zqC])
  first | (refine wpL_pick_and rfl rfl rfl rfl rfl ?_) | (refine wpL_pick_or rfl rfl rfl rfl rfl ?_)
  try simp only [Act.put, zqA, zqB, zqC]
  (refine wpL_read (v := ?_) rfl ?_ ?_; rotate_left 1; (go_simp; first | done | rfl))
  try simp only [Act.put, zqA, zqB, zqC]
  iterate 7 ((refine wpL_gread (v := ?_) (c := ?_) rfl rfl rfl ?_ (fun hc => ?_) ?_; rotate_left 2; (first | exact gc_t _ | exact gc_f _ | exact gc_gt _ _ | exact gc_gf _ _); ((try simp only [gv_of hc]); (try (have hc1 := and_l hc; (try simp only [gv_of hc1]); (try (have hc2 := and_l hc1; (try simp only [gv_of hc2]))))); go_simp; first | done | rfl)); try simp only [Act.put, zqA, zqB, zqC])
  first | (refine wpL_pick_and rfl rfl rfl rfl rfl ?_) | (refine wpL_pick_or rfl rfl rfl rfl rfl ?_)
  try simp only [Act.put, zqA, zqB, zqC]
  refine wpList_nil ?_
  try go_simp
  go_wp2
  · rename_i hbad
    go_ret
    refine ⟨ret_bool ?_, by repeat (first | exact Ext.refl _ | apply Ext.drew | apply Ext.alloc | apply Ext.more_)⟩
    rw [← HR.out]
    symm
    simp only [bne_iff_ne, ne_eq] at hbad
    rcases hbad with (hb | hb) | hb
    · simp [sameA, hb]
    · simp [sameA, hb]
    · have : ¬ l = l' := by rintro rfl; exact hb (by rw [← h.len, ← h'.len])
      simp [sameA, this]
  · rename_i hgood _ _
    simp only [bne_eq_false_iff_eq] at hgood
    obtain ⟨⟨g1, g2⟩, g3⟩ := hgood
    obtain rfl : n = n' := by omega
    have HR' : Hid (R = decide (l = l')) := by show _ = _; rw [← HR.out, g1, g2]; simp [sameA]
    clear g1 g2 g3
    go_loopw [5] (fun i wr => ∃ k : Nat, k ≤ n ∧ i = .int .i64 k ∧ Ext ((w.alloc (Obj.cells #[.int .i64 r, .int .i64 c, .slice A n cap] 31)).alloc (Obj.cells #[.int .i64 r', .int .i64 c', .slice B n cap'] 31)) wr ∧ Hid (alike k l l')) (fun i _ => n - (intOf i).toNat)
    case atStart => exact ⟨0, Nat.zero_le _, rfl, Ext.refl _, fun j x y hj => absurd hj (Nat.not_lt_zero _)⟩
    case round =>
      obtain ⟨k, hk, rfl, hX, H⟩ := hrel
      obtain ⟨os, d, rfl⟩ := hX.more
      by_cases hlt : k < n
      · obtain ⟨x, b, off, hx, hxo, rfl, hv⟩ := h.at hlt; obtain ⟨v0, v1, v2, v3, v4, v5⟩ := hv; have hbl : b < w.heap.size := lt_of_cell v0
        obtain ⟨y, b', off', hy, hyo, rfl, hv'⟩ := h'.at hlt; obtain ⟨u0, u1, u2, u3, u4, u5⟩ := hv'; have hbl' : b' < w.heap.size := lt_of_cell u0
        by_cases hxy : eqV x y = true
        · go_wp2
          refine wp_plan (S := Ext _) [(0, 0), (1, 0), (2, 0), (3, 0), (4, 0), (5, 0), (6, 0), (7, 0), (8, 0), (9, 0), (10, 0)] [] (by kernel_rfl) (by kernel_rfl) (by kernel_rfl) (fun _ _ d _ _ h => by cases d <;> exact h) (Ext.drew (Ext.refl _)) ?_
          iterate 11 ((refine wpPl_read (v := ?_) rfl ?_ (fun _ h => ?_) ?_; rotate_left 1; rfl; (obtain ⟨_, _, rfl⟩ := h.more; go_simp; try rfl)); try simp only [Act.put, zqA, zqB, zqC])
          refine wpPl_nil ?_
          go_wp2
          refine ⟨⟨k + 1, by omega, by go_num, by repeat (first | exact Ext.refl _ | apply Ext.drew | apply Ext.alloc | apply Ext.more_), ?_⟩, by simp [intOf]; omega⟩
          obtain rfl : x = y := by simpa [eqV] using hxy
          exact alike_succ H.out hx hy
        · have hxy' : eqV x y = false := by simpa using hxy
          have hR : R = false := by
            rw [HR'.out]
            simp only [decide_eq_false_iff_not]
            rintro rfl
            rw [hx] at hy
            simp [eqV] at hxy
            exact hxy (by simpa using hy)
          have HR2 := Lib.hid hR
          clear hR hxy
          go_wp2
          refine wp_plan (S := Ext _) [(0, 0), (1, 0), (2, 0), (3, 0), (4, 0), (5, 0), (6, 0), (7, 0), (8, 0), (9, 0), (10, 0)] [] (by kernel_rfl) (by kernel_rfl) (by kernel_rfl) (fun _ _ d _ _ h => by cases d <;> exact h) (Ext.drew (Ext.refl _)) ?_
          iterate 11 ((refine wpPl_read (v := ?_) rfl ?_ (fun _ h => ?_) ?_; rotate_left 1; rfl; (obtain ⟨_, _, rfl⟩ := h.more; go_simp; try rfl)); try simp only [Act.put, zqA, zqB, zqC])
          refine wpPl_nil ?_
          go_wp2
          go_ret
          exact ⟨ret_bool HR2.out.symm, by repeat (first | exact Ext.refl _ | apply Ext.drew | apply Ext.alloc | apply Ext.more_)⟩
      · have hR : R = true := by
          rw [HR'.out]
          simp only [decide_eq_true_eq]
          obtain rfl : k = n := by omega
          exact alike_all h.len h'.len H.out
        have HR2 := Lib.hid hR
        clear hR
        go_wp2
        go_ret
        exact ⟨ret_bool HR2.out.symm, by repeat (first | exact Ext.refl _ | apply Ext.drew | apply Ext.alloc | apply Ext.more_)⟩
end Go.Proofs.YtfpaalkllfbeoaaGreatDoor
namespace Go.Proofs.YtfpaalkllfbeoaaGreatDoor
open Go.RowKit
theorem info_val : (Tryz.prog.info? 43).map (fun i => (i.zero, i.size, i.bytes)) = some (some (VV 0 0 0 ⟨#[]⟩ false 0), 6, 56) := by kernel_rfl
end Go.Proofs.YtfpaalkllfbeoaaGreatDoor
namespace Go.Proofs.YtfpaalkllfbeoaaGreatDoor
open Go.RowKit
/-- Memory but for the blocks of one call of build. -/
structure Keep (s0 : Nat) (W W' : World) : Prop where
  os : W'.os = W.os
  tape : W'.tape = W.tape
  output : W'.output = W.output
  size : W.heap.size ≤ W'.heap.size
  block : ∀ b, b < W.heap.size → b ≠ s0 → b ≠ s0 + 1 → b ≠ s0 + 1 + 1 → W'.heap[b]? = W.heap[b]?
/-- The blocks of one call of build. -/
structure Leaves (s0 : Nat) (W W' : World) : Prop where
  size : W.heap.size ≤ W'.heap.size
  b0 : W'.heap[s0]? = W.heap[s0]?
  b1 : W'.heap[s0 + 1]? = W.heap[s0 + 1]?
  b2 : W'.heap[s0 + 1 + 1]? = W.heap[s0 + 1 + 1]?
theorem Keep.refl (s0 : Nat) (W : World) : Keep s0 W W := ⟨rfl, rfl, rfl, Nat.le_refl _, fun _ _ _ _ _ => rfl⟩
theorem Keep.trans {s0 : Nat} {a b c : World} (h : Keep s0 a b) (k : Keep s0 b c) : Keep s0 a c :=
  ⟨k.os.trans h.os, k.tape.trans h.tape, k.output.trans h.output, Nat.le_trans h.size k.size, fun i hi h0 h1 h2 => (k.block i (Nat.lt_of_lt_of_le hi h.size) h0 h1 h2).trans (h.block i hi h0 h1 h2)⟩
theorem Keep.of_ext {s0 : Nat} {a b : World} (h : Ext a b) : Keep s0 a b := ⟨h.os, h.tape, h.output, h.size, fun _ hi _ _ _ => h.block hi⟩
theorem Keep.of_grown {s0 : Nat} {a b : World} (h : a.grownBy b (some (s0 + 1))) : Keep s0 a b := ⟨h.os, h.tape, h.output, h.size, fun i hi _ h1 _ => h.block i hi (fun e => h1 (by simpa using e))⟩
theorem Keep.of_set {s0 : Nat} (a : World) {p : Addr} (v : Value) (hp : p.block = s0 ∨ p.block = s0 + 1 ∨ p.block = s0 + 1 + 1) : Keep s0 a (a.setCell p v) :=
  ⟨rfl, rfl, rfl, by simp [World.setCell], fun i hi h0 h1 h2 => Below.heap_setCell _ _ _ _ (by omega)⟩
theorem Keep.drew {s0 : Nat} {a b : World} (h : Keep s0 a b) : Keep s0 a b.drew := ⟨h.os, h.tape, h.output, h.size, h.block⟩
theorem Leaves.of_ext {s0 : Nat} {a b : World} (h : Ext a b) (hs : s0 + 3 ≤ a.heap.size) : Leaves s0 a b := ⟨h.size, h.block (by omega), h.block (by omega), h.block (by omega)⟩
/-- What stands in memory behind k calls. -/
structure BSt (s0 R C N k : Nat) (l : List Val) (wr : World) : Prop where
  size : s0 + 3 ≤ wr.heap.size
  b0 : wr.heap[s0]? = some (.cells #[.int .i64 0, .int .i64 0, .slice none 0 0] 31)
  b2 : wr.heap[s0 + 1 + 1]? = some (.cells #[.int .i64 R, .int .i64 C, .slice (some ⟨s0 + 1, 0, none⟩) k N] 31)
  own : wr.ownsRow (s0 + 1) 43 6 (.slice (some ⟨s0 + 1, 0, none⟩) k N) k (vcells l)
def vals (g : Nat → Nat → Val) (C k : Nat) : List Val := (List.range k).map fun t => g (t / C) (t % C)
theorem vals_succ (g : Nat → Nat → Val) (C i j : Nat) (hj : j < C) : vals g C (i * C + j + 1) = vals g C (i * C + j) ++ [g i j] := by
  unfold vals
  rw [List.range_succ, List.map_append]
  have h1 : (i * C + j) / C = i := by rw [Nat.add_comm, Nat.add_mul_div_right _ _ (by omega), Nat.div_eq_of_lt hj]; omega
  have h2 : (i * C + j) % C = j := by rw [Nat.add_comm, Nat.add_mul_mod_self_right, Nat.mod_eq_of_lt hj]
  simp [h1, h2]
theorem vals_length (g : Nat → Nat → Val) (C k : Nat) : (vals g C k).length = k := by simp [vals]
theorem BSt.step {s0 R C N k : Nat} {l : List Val} {x : Val} {wr w1 w3 : World} {ty : TypeId} (h : BSt s0 R C N k l wr) (hl : Leaves s0 wr w1) (hg : (w1.alloc (.cells x.cells.toArray ty)).grownBy w3 (some (s0 + 1)))
    (ho : w3.ownsRow (s0 + 1) 43 6 (.slice (some ⟨s0 + 1, 0, none⟩) (k + 1) N) (k + 1) (vcells l ++ x.cells)) :
    BSt s0 R C N (k + 1) (l ++ [x]) (w3.setCell ⟨s0 + 1 + 1, 2, none⟩ (.slice (some ⟨s0 + 1, 0, none⟩) (k + 1) N)) := by
  have hs1 := hl.size
  have hs := h.size
  have hz : (w1.alloc (.cells x.cells.toArray ty)).heap.size = w1.heap.size + 1 := by simp
  have hs3 := hg.size
  have hb : ∀ b, b < w1.heap.size → b ≠ s0 + 1 → w3.heap[b]? = w1.heap[b]? := fun b hb hn => (hg.block b (by omega) (by simpa using hn)).trans (Below.heap_alloc _ _ _ hb)
  refine ⟨by simp [World.setCell]; omega, ?_, ?_, ?_⟩
  · rw [Below.heap_setCell _ _ _ _ (by simp only; omega), hb s0 (by omega) (by omega), hl.b0, h.b0]
  · have h2 : w3.heap[s0 + 1 + 1]? = some (.cells #[.int .i64 R, .int .i64 C, .slice (some ⟨s0 + 1, 0, none⟩) k N] 31) := by rw [hb (s0 + 1 + 1) (by omega) (by omega), hl.b2, h.b2]
    simp [World.setCell, Array.getElem?_modify, h2]
  · have : vcells (l ++ [x]) = vcells l ++ x.cells := by simp [vcells]
    rw [this]
    exact ho.kept (row := some (s0 + 1 + 1)) ⟨rfl, rfl, rfl, by simp [World.setCell], fun b hb hne => Below.heap_setCell _ _ _ _ (fun e => hne (by simp [e]))⟩ (.inr (by simp [Value.ownBlock]))
end Go.Proofs.YtfpaalkllfbeoaaGreatDoor
namespace Go.Proofs.YtfpaalkllfbeoaaGreatDoor
open Go.RowKit
theorem wp_append_fits {P : Program} (w : World) {o : Oper} {a : Act} {K : Act → World → Prop} {Q : Exit → Act → World → Prop} (s x : Operand) (t : TypeId)
    (ho : o.op = .call { callee := .builtin .append, args := #[s, x], argTypes := #[t, t] })
    (base : Nat) (e : TypeId) (i : TypeInfo) (size : Nat) (ht : P.underlying t = some (.slice e)) (hi : P.info? e = some i) (hsize : i.size = size)
    (g n cap : Nat) (xs : List Value) (hs : a.eval s = .slice (some ⟨g, 0, none⟩) n cap) (hown : w.ownsRow base e size (.slice (some ⟨g, 0, none⟩) n cap) n xs)
    (ad : Addr) (m c : Nat) (news : List Value) (hx : a.eval x = .slice (some ad) m c) (hl : news.length = m * size) (hnews : ∀ j u, news[j]? = some u → w.cell? (ad.add j) = some u) (h1 : ∀ u ∈ news, u.oneCell' = true)
    (hroom : n + m ≤ cap)
    (h : ∀ w', w'.ownsRow base e size (.slice (some ⟨g, 0, none⟩) (n + m) cap) (n + m) (xs ++ news) → w.grownBy w' (some g) → K (a.put o.dst (.slice (some ⟨g, 0, none⟩) (n + m) cap)) w') : o.wp P a w K Q := by
  obtain ⟨w', hr, h2, h3⟩ := run_append_fits (P := P) w base t o.type e i size ht hi hsize g n cap xs hown ad m c news hl hnews h1 hroom
  unfold Oper.wp execOp
  simp only [ho, resolve, invoke, builtin, Sem.run_bind, Sem.run_pure, Result.andThen_ok, List.map_toArray, List.map_cons, List.map_nil, hs, hx, hr]
  exact h w' h2 h3
theorem BSt.start {w : World} {R C : Nat} (N : Nat) (hN : N ≤ 4096) :
    BSt w.heap.size R C N 0 [] (((w.alloc (Obj.cells #[.int .i64 0, .int .i64 0, .slice none 0 0] 31)).alloc (Obj.cells (madeCells #[.int .i64 0, .int .i64 0, .int .i64 0, .string ⟨#[]⟩, .bool false, .int .i64 0] (N * 6)) 43)).alloc (Obj.cells #[.int .i64 R, .int .i64 C, .slice (some ⟨w.heap.size + 1, 0, none⟩) 0 N] 31)) := by
  refine ⟨by simp, ?_, ?_, ?_⟩
  · rw [Below.heap_alloc _ _ _ (by simp; omega), Below.heap_alloc _ _ _ (by simp), heap_alloc_new]
  · have := heap_alloc_new ((w.alloc (Obj.cells #[.int .i64 0, .int .i64 0, .slice none 0 0] 31)).alloc (Obj.cells (madeCells #[.int .i64 0, .int .i64 0, .int .i64 0, .string ⟨#[]⟩, .bool false, .int .i64 0] (N * 6)) 43)) (Obj.cells #[.int .i64 R, .int .i64 C, .slice (some ⟨w.heap.size + 1, 0, none⟩) 0 N] 31)
    simpa using this
  · refine World.ownsRow.alloc ?_ _
    have := World.ownsRow_made (base := w.heap.size + 1) (e := 43) (size := 6) (w.alloc (Obj.cells #[.int .i64 0, .int .i64 0, .slice none 0 0] 31)) (madeCells #[.int .i64 0, .int .i64 0, .int .i64 0, .string ⟨#[]⟩, .bool false, .int .i64 0] (N * 6)) N (by simp) (by simp only [maxLen]; omega) (by rw [size_madeCells])
    simpa [vcells] using this
theorem BSt.own_later {s0 R C N k : Nat} {l : List Val} {wr w1 : World} (h : BSt s0 R C N k l wr) (hl : Leaves s0 wr w1) (o : Obj) : (w1.alloc o).ownsRow (s0 + 1) 43 6 (.slice (some ⟨s0 + 1, 0, none⟩) k N) k (vcells l) := by
  refine World.ownsRow.alloc ?_ _
  obtain ⟨h1, h2⟩ := h.own
  refine ⟨h1, ?_⟩
  rcases h2 with ⟨h2, _⟩ | ⟨g, cap, cur, hv, hg, hh, r⟩
  · simp at h2
  · simp only [Value.slice.injEq, Option.some.injEq, Addr.mk.injEq, and_true, true_and] at hv
    obtain ⟨rfl, rfl⟩ := hv
    exact .inr ⟨s0 + 1, N, cur, rfl, hg, hl.b1.trans hh, r⟩
theorem Keep.three (s0 : Nat) (a : World) (u v x : Value) : Keep s0 a (((a.setCell ⟨s0, 0, none⟩ u).setCell ⟨s0, 1, none⟩ v).setCell ⟨s0, 2, none⟩ x) :=
  ((Keep.of_set (s0 := s0) a (p := ⟨s0, 0, none⟩) u (.inl rfl)).trans (Keep.of_set (s0 := s0) _ (p := ⟨s0, 1, none⟩) v (.inl rfl))).trans (Keep.of_set (s0 := s0) _ (p := ⟨s0, 2, none⟩) x (.inl rfl))
theorem Rd.set_far {base : Nat} {w : World} {A : Option Addr} {cs : List Value} (h : Rd base w A cs) {p : Addr} (v : Value) (hp : p.block < base) : Rd base (w.setCell p v) A cs :=
  h.blocks fun b hb => Below.heap_setCell _ _ _ _ (by omega)
theorem new_cells (w : World) (cs : List Value) (ty : TypeId) : ∀ j u, cs[j]? = some u → (w.alloc (.cells cs.toArray ty)).cell? ((⟨w.heap.size, 0, none⟩ : Addr).add j) = some u := fun j u hu => by
  rw [Addr.add_mid, World.cell?_alloc_at _ _ _ _ rfl]
  simpa using hu
theorem cells_one (x : Val) : ∀ u ∈ x.cells, u.oneCell' = true := by
  intro u hu
  simp only [Val.cells, List.mem_cons, List.not_mem_nil, or_false] at hu
  rcases hu with rfl | rfl | rfl | rfl | rfl | rfl <;> rfl
set_option maxHeartbeats 1000000 in
theorem build_any (R C : Nat) (cl : FuncId) (capt : Array Value) (g : Nat → Nat → Val) (w : World) (J : Nat → World → Prop) (hR : 1 ≤ R) (hC : 1 ≤ C) (hN : R * C ≤ 4096) (hR' : R ≤ 4096) (hC' : C ≤ 4096)
    (hent : ∀ (args : Array Value) (W : World), (callFunc cl args).run Tryz.prog W = .ok (.enter cl args) W) (hJ0 : J 0 w) (hJ : ∀ k W W', Keep w.heap.size W W' → J k W → J k W')
    (hcall : ∀ i j W, i < R → j < C → J (i * C + j) W → w.heap.size + 3 ≤ W.heap.size →
      Calls Tryz.prog cl (#[.int .i64 i, .int .i64 j] ++ capt) W fun e W' => e = .returned (VV (g i j).kind (g i j).mant (g i j).exp (g i j).text (g i j).truth (g i j).fault) ∧ J (i * C + j + 1) W' ∧ Leaves w.heap.size W W') :
    Calls Tryz.prog 92 #[.int .i64 R, .int .i64 C, .func (.func cl) #[] capt] w fun e w' => ∃ A c, e = .returned (AV R C (.slice A (R * C) c)) ∧ SlV w.heap.size w' A (vals g C (R * C)) ∧ R * C ≤ c ∧ J (R * C) w' := by
  obtain ⟨i0, hi, hz0, hz1, hz2⟩ := info_parts info_val
  have hw : IntKind.i64.wrap ((R : Int) * (C : Int)) = ((R * C : Nat) : Int) := by rw [IntKind.wrap_i64, Int.natCast_mul]; omega
  have hmk : ∀ (N : Nat) (W : World), N ≤ 4096 → (Instr.makeSlice 29 (.int .i64 0) (.int .i64 (N : Int))).run Tryz.prog W = .ok (.slice (some ⟨W.heap.size, 0, none⟩) 0 N) (W.alloc (.cells (madeCells (VV 0 0 0 ⟨#[]⟩ false 0).cells (N * 6)) 43)) := fun N W hN => by
    have := run_make (P := Tryz.prog) W 29 43 i0 _ Tryz.underlying29 hi hz0 .i64 .i64 0 (N : Int) (by omega) (by omega) (by rw [hz2]; omega) (by omega)
    simpa [hz1] using this
  generalize hNN : R * C = N at *
  have hmk' := fun W => hmk N W hN
  clear hmk
  have HN := Lib.hid hNN
  clear hNN
  have HC := Lib.hid hcall
  clear hcall
  have HJ := Lib.hid hJ
  clear hJ
  go_enter Tryz.func92, Tryz.ntmps92
  go_wp2
  have hst0 := BSt.start (w := w) (R := R) (C := C) N hN
  have hj0 : J 0 (((w.alloc (Obj.cells #[.int .i64 0, .int .i64 0, .slice none 0 0] 31)).alloc (Obj.cells (madeCells #[.int .i64 0, .int .i64 0, .int .i64 0, .string ⟨#[]⟩, .bool false, .int .i64 0] (N * 6)) 43)).alloc (Obj.cells #[.int .i64 R, .int .i64 C, .slice (some ⟨w.heap.size + 1, 0, none⟩) 0 N] 31)) := HJ.out 0 w _ (Keep.of_ext (by repeat (first | exact Ext.refl _ | apply Ext.drew | apply Ext.alloc | apply Ext.more_))) hJ0
  go_loopw [18] (fun i wr => ∃ r : Nat, r ≤ R ∧ i = .int .i64 r ∧ BSt w.heap.size R C N (r * C) (vals g C (r * C)) wr ∧ Hid (J (r * C) wr)) (fun i _ => R - (intOf i).toNat)
  case atStart => exact ⟨0, Nat.zero_le _, rfl, by simpa [vals] using hst0, by show J _ _; simpa using hj0⟩
  case round =>
    clear hst0 hj0
    obtain ⟨r, hr, rfl, hst, HJr⟩ := hrel
    by_cases hlt : r < R
    · go_wp2
      obtain ⟨wo, rfl⟩ : ∃ wo : World, wo = wr := ⟨_, rfl⟩
      go_loopw [22] (fun i wr => ∃ j : Nat, j ≤ C ∧ i = .int .i64 j ∧ BSt w.heap.size R C N (r * C + j) (vals g C (r * C + j)) wr ∧ Hid (J (r * C + j) wr)) (fun i _ => C - (intOf i).toNat)
      case atStart => exact ⟨0, Nat.zero_le _, rfl, by simpa using hst, by show J _ _; simpa using HJr.out⟩
      case round =>
        clear hst HJr
        obtain ⟨j, hj, rfl, hst, HJr⟩ := hrel
        by_cases hjt : j < C
        · go_wp2
          have hkN : r * C + j < N := by
            rw [← HN.out]
            have : (r + 1) * C ≤ R * C := Nat.mul_le_mul_right C hlt
            rw [Nat.succ_mul] at this
            omega
          refine wp_plan (S := fun W => W.heap[w.heap.size + 1 + 1]? = some (.cells #[.int .i64 R, .int .i64 C, .slice (some ⟨w.heap.size + 1, 0, none⟩) (r * C + j) N] 31)) [(0, 0), (1, 0), (2, 0), (3, 0), (4, 0), (5, 1), (6, 1), (7, 1), (8, 0), (9, 2)] [9] (by kernel_rfl) (by kernel_rfl) (by kernel_rfl) (fun _ _ d _ _ h => by cases d <;> exact h) hst.b2 ?_
          (refine wpPl_read (v := ?_) rfl ?_ (fun w1 h1 => ?_) ?_; rotate_left 1; rfl; (go_simp; first | done | rfl))
          try simp only [Act.put, zqA, zqB, zqC]
          (refine wpPl_read (v := ?_) rfl ?_ (fun w1 h1 => ?_) ?_; rotate_left 1; rfl; (have h2 := cell_of_row _ _ 2 _ _ _ h1; clear h1; go_simp; first | done | rfl))
          try simp only [Act.put, zqA, zqB, zqC]
          iterate 3 ((refine wpPl_read (v := ?_) rfl ?_ (fun w1 h1 => ?_) ?_; rotate_left 1; rfl; (clear h1; go_simp; first | done | rfl)); try simp only [Act.put, zqA, zqB, zqC])
          (refine wpPl_eff rfl ?_ (fun K hK => ?_); rfl; go_simp)
          refine (HC.out r j _ hlt hjt (HJ.out _ _ _ ((Keep.refl _ _).drew) HJr.out) hst.size).mono ?_
          rintro e w1 ⟨rfl, hJ1, hL1⟩
          have hL : Leaves w.heap.size wr w1 := ⟨hL1.size, hL1.b0, hL1.b1, hL1.b2⟩
          refine hK _ _ (hL.b2.trans hst.b2) ?_
          try simp only [Act.put, zqA, zqB, zqC]
          (refine wpPl_eff rfl ?_ (fun K hK => ?_); rfl; go_simp)
          refine hK _ _ ((Below.heap_alloc _ _ _ (by have := hL.size; have := hst.size; omega)).trans (hL.b2.trans hst.b2)) ?_
          try simp only [Act.put, zqA, zqB, zqC]
          (refine wpPl_eff rfl ?_ (fun K hK => ?_); rfl)
          refine wp_append_fits _ _ _ _ rfl (w.heap.size + 1) 43 i0 6 Tryz.underlying29 hi hz1 (w.heap.size + 1) (r * C + j) N (vcells (vals g C (r * C + j))) rfl (hst.own_later hL _) ⟨w1.heap.size, 0, none⟩ 1 1 (g r j).cells rfl rfl (new_cells _ _ _) (cells_one _) (by omega) ?_
          intro w3 ho3 hg3
          refine hK _ _ ((hg3.block _ (by have := hL.size; have := hst.size; simp; omega) (by simp)).trans ((Below.heap_alloc _ _ _ (by have := hL.size; have := hst.size; omega)).trans (hL.b2.trans hst.b2))) ?_
          try simp only [Act.put, zqA, zqB, zqC]
          (refine wpPl_read (v := ?_) rfl ?_ (fun w1 h1 => ?_) ?_; rotate_left 1; rfl; (clear h1; go_simp; first | done | rfl))
          try simp only [Act.put, zqA, zqB, zqC]
          have hb2 : w3.heap[w.heap.size + 1 + 1]? = some (.cells #[.int .i64 R, .int .i64 C, .slice (some ⟨w.heap.size + 1, 0, none⟩) (r * C + j) N] 31) := (hg3.block _ (by have := hL.size; have := hst.size; simp; omega) (by simp)).trans ((Below.heap_alloc _ _ _ (by have := hL.size; have := hst.size; omega)).trans (hL.b2.trans hst.b2))
          have c2 := cell_of_row _ _ 2 _ _ _ hb2
          have f2 := frozen_of_row _ _ 2 _ _ hb2
          have hst2 : BSt w.heap.size R C N (r * C + (j + 1)) (vals g C (r * C + (j + 1))) (w3.setCell ⟨w.heap.size + 1 + 1, 2, none⟩ (.slice (some ⟨w.heap.size + 1, 0, none⟩) (r * C + j + 1) N)) := by
            rw [show r * C + (j + 1) = r * C + j + 1 by omega, vals_succ g C r j hjt]
            exact hst.step hL hg3 ho3
          have hJ3 : Hid (J (r * C + (j + 1)) (w3.setCell ⟨w.heap.size + 1 + 1, 2, none⟩ (.slice (some ⟨w.heap.size + 1, 0, none⟩) (r * C + j + 1) N))) :=
            HJ.out _ _ _ (((Keep.of_ext ((Ext.refl w1).alloc _)).trans (Keep.of_grown hg3)).trans (Keep.of_set w3 _ (.inr (.inr rfl)))) hJ1
          clear hb2 ho3 hg3 hst
          (refine wpPl_tail rfl ?_ (fun K hK => ?_); rfl; go_simp)
          refine hK _ _ ?_
          try simp only [Act.put, zqA, zqB, zqC]
          refine wpPl_nil ?_
          go_wp2
          exact ⟨⟨j + 1, by omega, by go_num, hst2, hJ3⟩, by simp [intOf]; omega⟩
        · go_wp2
          obtain rfl : j = C := by omega
          refine ⟨⟨r + 1, by omega, by go_num, by rw [Nat.succ_mul]; exact hst, by rw [Nat.succ_mul]; exact HJr⟩, by simp [intOf]; omega⟩
    · obtain rfl : r = R := by omega
      have e := HN.out
      rw [e] at hst HJr
      clear e
      have c20 := cell_of_row _ _ 0 _ _ _ hst.b2
      have c21 := cell_of_row _ _ 1 _ _ _ hst.b2
      have c22 := cell_of_row _ _ 2 _ _ _ hst.b2
      have c00 := cell_of_row _ _ 0 _ _ _ hst.b0
      have c01 := cell_of_row _ _ 1 _ _ _ hst.b0
      have c02 := cell_of_row _ _ 2 _ _ _ hst.b0
      have f00 := frozen_of_row _ _ 0 _ _ hst.b0
      have f01 := frozen_of_row _ _ 1 _ _ hst.b0
      have f02 := frozen_of_row _ _ 2 _ _ hst.b0
      go_wp2
      refine bodyPost_ret (results_cell_row (by rfl) _ _ w.heap.size 31 #[.int .i64 r, .int .i64 C, .slice (some ⟨w.heap.size + 1, 0, none⟩) N N] (0, 0) _ (by rfl) ?_ Tryz.underlying31 (by rfl) (by kernel_rfl)) rfl ⟨some ⟨w.heap.size + 1, 0, none⟩, N, rfl, ?_, Nat.le_refl _, HJ.out _ _ _ (Keep.three _ _ _ _ _) HJr.out⟩
      · simp [World.setCell, Array.getElem?_modify, hst.b0]
      · obtain ⟨A, c, hA, hrd, _⟩ := Rd.of_own hst.own
        simp only [Value.slice.injEq, true_and] at hA
        obtain ⟨rfl, rfl⟩ := hA
        exact Rd.mono (((hrd.set_far _ (by simp)).set_far _ (by simp)).set_far _ (by simp)) (by omega)
end Go.Proofs.YtfpaalkllfbeoaaGreatDoor
namespace Go.Proofs.YtfpaalkllfbeoaaGreatDoor
open Go.RowKit
theorem Keep.ext {w W W' : World} (h : Keep w.heap.size W W') (hx : Ext w W) : Ext w W' :=
  ⟨h.os.trans hx.os, h.tape.trans hx.tape, h.output.trans hx.output, Nat.le_trans hx.size h.size, fun b hb => (h.block b (Nat.lt_of_lt_of_le hb hx.size) (by omega) (by omega) (by omega)).trans (hx.block hb)⟩
/-- build of a function that keeps nothing. -/
theorem build_pure (R C : Nat) (cl : FuncId) (capt : Array Value) (g : Nat → Nat → Val) (w : World) (hR : 1 ≤ R) (hC : 1 ≤ C) (hN : R * C ≤ 4096)
    (hent : ∀ (args : Array Value) (W : World), (callFunc cl args).run Tryz.prog W = .ok (.enter cl args) W)
    (hcall : ∀ i j W, i < R → j < C → Ext w W →
      Calls Tryz.prog cl (#[.int .i64 i, .int .i64 j] ++ capt) W fun e W' => e = .returned (VV (g i j).kind (g i j).mant (g i j).exp (g i j).text (g i j).truth (g i j).fault) ∧ Ext W W') :
    Calls Tryz.prog 92 #[.int .i64 R, .int .i64 C, .func (.func cl) #[] capt] w fun e w' => ∃ A c, e = .returned (AV R C (.slice A (R * C) c)) ∧ SlV w.heap.size w' A (vals g C (R * C)) ∧ R * C ≤ c ∧ Ext w w' := by
  have h1 : R * 1 ≤ R * C := Nat.mul_le_mul_left R hC
  have h2 : 1 * C ≤ R * C := Nat.mul_le_mul_right C hR
  exact build_any R C cl capt g w (fun _ W => Ext w W) hR hC hN (by omega) (by omega) hent (Ext.refl w) (fun _ _ _ h hx => h.ext hx)
    (fun i j W hi hj hx hs => (hcall i j W hi hj hx).mono fun e W' ⟨he, hb⟩ => ⟨he, hx.trans hb, Leaves.of_ext hb hs⟩)
/-- The three cells of an array's variable. -/
abbrev ABox (pb : Nat) (r c : Int) (A : Option Addr) (n cap : Nat) (W : World) : Prop :=
  pb < W.heap.size ∧ W.cell? ⟨pb, 0, none⟩ = some (.int .i64 r) ∧ W.cell? ⟨pb, 1, none⟩ = some (.int .i64 c) ∧ W.cell? ⟨pb, 2, none⟩ = some (.slice A n cap)
theorem ABox.ext {pb : Nat} {r c : Int} {A : Option Addr} {n cap : Nat} {W W' : World} (h : ABox pb r c A n cap W) (hb : Ext W W') : ABox pb r c A n cap W' :=
  ⟨by have := hb.size; have := h.1; omega, hb.cell_some h.2.1, hb.cell_some h.2.2.1, hb.cell_some h.2.2.2⟩
def getV (l : List Val) (k : Nat) : Val := (l[k]?).getD Val.zero
theorem ArrIn.get {w : World} {A : Option Addr} {n cap : Nat} {l : List Val} (h : ArrIn w A n cap l) {k : Nat} (hk : k < n) : ∃ b off, A = some ⟨b, off, none⟩ ∧ ValAt w b (off + k * 6) (getV l k) ∧ (getV l k).ok := by
  obtain ⟨x, b, off, hx, ho, hA, hv⟩ := h.at hk
  have : getV l k = x := by simp [getV, hx]
  rw [this]
  exact ⟨b, off, hA, hv, ho⟩
theorem cell_prod {C i j : Nat} (R : Nat) (hi : i < R) (hj : j < C) (hN : R * C ≤ 4096) : i * C + j < R * C ∧ i * C ≤ 4096 := by
  have : (i + 1) * C ≤ R * C := Nat.mul_le_mul_right C hi
  rw [Nat.succ_mul] at this
  omega
set_option maxHeartbeats 400000 in
theorem turn1_any (pb : Nat) (R C : Nat) (A : Option Addr) (n cap : Nat) (l : List Val) (i j : Nat) (W : World) (hb : ABox pb R C A n cap W) (h : ArrIn W A n cap l) (hn : n = R * C) (hN : n ≤ 4096) (hi : i < C) (hj : j < R) :
    Calls Tryz.prog 103 #[.int .i64 i, .int .i64 j, .pointer (some ⟨pb, 0, none⟩)] W fun e W' => e = .returned (VV (getV l (j * C + i)).kind (getV l (j * C + i)).mant (getV l (j * C + i)).exp (getV l (j * C + i)).text (getV l (j * C + i)).truth (getV l (j * C + i)).fault) ∧ Ext W W' := by
  subst hn
  obtain ⟨hk, hk2⟩ := cell_prod R hj hi hN
  obtain ⟨b, off, rfl, hv, ho⟩ := h.get hk
  generalize hx : getV l (j * C + i) = x at *
  clear hx
  obtain ⟨v0, v1, v2, v3, v4, v5⟩ := hv
  have hbl : b < W.heap.size := lt_of_cell v0
  obtain ⟨hp, b0, b1, b2⟩ := hb
  have w1 : IntKind.i64.wrap ((j : Int) * (C : Int)) = ((j * C : Nat) : Int) := by rw [IntKind.wrap_i64, Int.natCast_mul]; omega
  generalize hjc : j * C = jc at *
  generalize hrc : R * C = rc at *
  clear hjc hrc
  go_enter Tryz.func103, Tryz.ntmps103
  go_wp2
  exact bodyPost_ret (v := VV x.kind x.mant x.exp x.text x.truth x.fault) (by simp [results, Tryz.results103, go_sem]) rfl ⟨rfl, by repeat (first | exact Ext.refl _ | apply Ext.drew | apply Ext.alloc | apply Ext.more_)⟩
def turnL (R C : Nat) (l : List Val) : List Val := vals (fun i j => getV l (j * C + i)) R (C * R)
theorem right_parts {r c : Int} {l : List Val} (h : rightA r c l = true) : ∃ R C : Nat, r = R ∧ c = C ∧ 1 ≤ R ∧ 1 ≤ C ∧ R * C ≤ 4096 ∧ l.length = R * C ∧ (∀ x ∈ l, valRight x = true) := by
  simp only [rightA, Bool.and_eq_true, decide_eq_true_eq, List.all_eq_true] at h
  obtain ⟨⟨hf, hn⟩, ha⟩ := h
  obtain ⟨f1, f2, f3, f4, f5, f6⟩ := fits_mul hf
  obtain ⟨R, rfl⟩ := Int.eq_ofNat_of_zero_le (show 0 ≤ r by omega)
  obtain ⟨C, rfl⟩ := Int.eq_ofNat_of_zero_le (show 0 ≤ c by omega)
  rw [← Int.natCast_mul] at hn f6
  exact ⟨R, C, rfl, rfl, by omega, by omega, by omega, by omega, ha⟩
set_option maxHeartbeats 400000 in
theorem turn_yes (R C : Nat) (A : Option Addr) (n cap : Nat) (l : List Val) (w : World) (h : ArrIn w A n cap l) (hr : rightA R C l = true) :
    Calls Tryz.prog 55 #[AV R C (.slice A n cap)] w fun e w' => ArrO w.heap.size w' e C R (turnL R C l) ∧ Ext w w' := by
  have hX : ∀ o o' : Obj, Ext w ((w.alloc o).alloc o') := fun o o' => by repeat (first | exact Ext.refl _ | apply Ext.drew | apply Ext.alloc | apply Ext.more_)
  obtain ⟨R', C', e1, e2, r1, r2, r3, r4, _⟩ := right_parts hr
  obtain rfl : R = R' := by omega
  obtain rfl : C = C' := by omega
  clear e1 e2
  have hln := h.len
  have hN : n ≤ 4096 := by omega
  have hn : n = R * C := by omega
  have HN := Lib.hid hn
  clear hn r4 hln
  have hcr : C * R ≤ 4096 := by rw [Nat.mul_comm]; exact r3
  go_enter Tryz.func55, Tryz.ntmps55
  go_wp2_with (first | (go_at_call 33; refine (right_any _ _ _ _ _ _ _ (h.ext (hX _ _))).mono ?_; rintro e w' ⟨rfl, hb⟩; obtain ⟨os, d, rfl⟩ := hb.more) | fail)
  refine (build_pure C R 103 #[.pointer (some ⟨w.heap.size, 0, none⟩)] (fun i j => getV l (j * C + i)) _ r2 r1 hcr (fun _ _ => by kernel_rfl) ?_).mono ?_
  · intro i j W hi hj hx
    refine turn1_any w.heap.size R C A n cap l i j W (ABox.ext ?_ hx) (h.ext (Ext.trans ?_ hx)) HN.out hN hi hj
    · refine ⟨?_, ?_, ?_, ?_⟩ <;> simp [go_sem]
    · exact (by repeat (first | exact Ext.refl _ | apply Ext.drew | apply Ext.alloc | apply Ext.more_))
  rintro e w' ⟨A', c', rfl, hs, hc', hb⟩
  obtain ⟨os', d', rfl⟩ := hb.more
  go_wp2
  have hl : (turnL R C l).length = C * R := vals_length _ _ _
  exact bodyPost_ret (v := AV C R (.slice A' (C * R) c')) (by simp [results, Tryz.results55, go_sem]) rfl ⟨⟨A', c', by rw [hl], (by (try simp only [more_more] at hs); (try simp only [drew_more] at hs); (try simp only [more_drew] at hs); exact Rd.swap hs (by first | (simp; done) | (simp; omega) | omega) (by first | (simp; done) | (simp; omega) | omega) (by first | (simp; done) | (simp; omega) | omega)), by rw [hl]; exact hc'⟩, by repeat (first | exact Ext.refl _ | apply Ext.drew | apply Ext.alloc | apply Ext.more_)⟩
end Go.Proofs.YtfpaalkllfbeoaaGreatDoor
namespace Go.Proofs.YtfpaalkllfbeoaaGreatDoor
open Go.RowKit
theorem fits_nat {a b : Nat} : fitsB a b = true ↔ 1 ≤ a ∧ 1 ≤ b ∧ a * b ≤ 4096 := by
  constructor
  · intro h
    obtain ⟨f1, f2, f3, f4, f5, f6⟩ := fits_mul h
    rw [← Int.natCast_mul] at f6
    exact ⟨by omega, by omega, by omega⟩
  · intro ⟨h1, h2, h3⟩
    have ha : a * 1 ≤ a * b := Nat.mul_le_mul_left a h2
    have hq : b ≤ 4096 / a := (Nat.le_div_iff_mul_le (by omega)).2 (by rw [Nat.mul_comm]; exact h3)
    simp only [fitsB, Bool.and_eq_true, decide_eq_true_eq]
    refine ⟨⟨⟨by omega, by omega⟩, by omega⟩, ?_⟩
    have : ((b : Nat) : Int) ≤ ((4096 / a : Nat) : Int) := by omega
    simpa using this
end Go.Proofs.YtfpaalkllfbeoaaGreatDoor
namespace Go.Proofs.YtfpaalkllfbeoaaGreatDoor
open Go.RowKit
theorem badV_ok (f : Int) (h : I64 f) : (badV f).ok := ⟨⟨by simp [badV], by simp [badV]⟩, ⟨by simp [badV], by simp [badV]⟩, ⟨by simp [badV], by simp [badV]⟩, by simp [badV, ByteArray.size], h⟩
theorem getV_mem {l : List Val} {k : Nat} (h : k < l.length) : getV l k ∈ l := by
  simp [getV, List.getElem?_eq_getElem h]
theorem getV_vals (g : Nat → Nat → Val) {R C i j : Nat} (hi : i < R) (hj : j < C) : getV (vals g C (R * C)) (i * C + j) = g i j := by
  have h1 : (i * C + j) / C = i := by rw [Nat.add_comm, Nat.add_mul_div_right _ _ (by omega), Nat.div_eq_of_lt hj]; omega
  have h2 : (i * C + j) % C = j := by rw [Nat.add_comm, Nat.add_mul_mod_self_right, Nat.mod_eq_of_lt hj]
  have h3 : i * C + j < R * C := by
    calc i * C + j < i * C + C := by omega
      _ = (i + 1) * C := by rw [Nat.succ_mul]
      _ ≤ R * C := Nat.mul_le_mul_right _ hi
  simp [getV, vals, h1, h2, h3]
theorem vals_mem {g : Nat → Nat → Val} {C k : Nat} {y : Val} (h : y ∈ vals g C k) : ∃ i j, y = g i j := by
  unfold vals at h
  obtain ⟨t, _, rfl⟩ := List.mem_map.1 h
  exact ⟨_, _, rfl⟩
/-- An array as data. -/
structure NA where
  R : Nat
  C : Nat
  l : List Val
def NA.right (a : NA) : Prop := rightA a.R a.C a.l = true
def NA.ok (a : NA) : Prop := ∀ x ∈ a.l, x.ok
theorem rightA_nat {R C : Nat} {l : List Val} : rightA R C l = true ↔ 1 ≤ R ∧ 1 ≤ C ∧ R * C ≤ 4096 ∧ l.length = R * C ∧ ∀ x ∈ l, valRight x = true := by
  simp only [rightA, Bool.and_eq_true, fits_nat, decide_eq_true_eq, List.all_eq_true]
  constructor
  · rintro ⟨⟨⟨h1, h2, h3⟩, h4⟩, h5⟩
    refine ⟨h1, h2, h3, ?_, h5⟩
    have : ((l.length : Nat) : Int) = ((R * C : Nat) : Int) := by rw [h4]; simp
    omega
  · rintro ⟨h1, h2, h3, h4, h5⟩
    exact ⟨⟨⟨h1, h2, h3⟩, by rw [h4]; simp⟩, h5⟩
end Go.Proofs.YtfpaalkllfbeoaaGreatDoor
namespace Go.Proofs.YtfpaalkllfbeoaaGreatDoor
open Go.RowKit NM
/-- An argument: an array that may be, and where its values lie. -/
structure Ar where
  x : NA
  A : Option Addr
  n : Nat
  cap : Nat
def Ar.cells (a : Ar) : List Value := [.int .i64 a.x.R, .int .i64 a.x.C, .slice a.A a.n a.cap]
def acells (xs : List Ar) : List Value := xs.flatMap Ar.cells
/-- The three cells of an array anywhere. -/
def ArAt (w : World) (b o : Nat) (a : Ar) : Prop :=
  w.cell? ⟨b, o, none⟩ = some (.int .i64 a.x.R) ∧ w.cell? ⟨b, o + 1, none⟩ = some (.int .i64 a.x.C) ∧ w.cell? ⟨b, o + 2, none⟩ = some (.slice a.A a.n a.cap)
theorem acells_at : ∀ (xs : List Ar) (i : Nat) (a : Ar), xs[i]? = some a → ∀ j, j < 3 → (acells xs)[i * 3 + j]? = a.cells[j]?
  | [], i, x, h, j, hj => by simp at h
  | y :: l, 0, x, h, j, hj => by
    obtain rfl : y = x := by simpa using h
    rw [acells, List.flatMap_cons, List.getElem?_append_left (by simp [Ar.cells]; omega)]
    simp
  | y :: l, i + 1, x, h, j, hj => by
    rw [acells, List.flatMap_cons, List.getElem?_append_right (by simp [Ar.cells]; omega)]
    rw [show (i + 1) * 3 + j - y.cells.length = i * 3 + j by simp [Ar.cells]; omega]
    exact acells_at l i x (by simpa using h) j hj
/-- An array whose values lie, and may be. -/
structure ArOk (w : World) (a : Ar) : Prop where
  arr : ArrIn w a.A a.n a.cap a.x.l
  right : a.x.right
theorem ArOk.ext {w w' : World} {a : Ar} (h : ArOk w a) (hx : Ext w w') : ArOk w' a := ⟨h.arr.ext hx, h.right⟩
structure ArgsIn (w : World) (A : Option Addr) (n cap : Nat) (xs : List Ar) : Prop where
  rd : Rd 0 w A (acells xs)
  len : xs.length = n
  cap : n ≤ cap
  small : n ≤ 9223372036854775807
  all : ∀ a ∈ xs, ArOk w a
theorem ArgsIn.ext {w w' : World} {A : Option Addr} {n cap : Nat} {xs : List Ar} (h : ArgsIn w A n cap xs) (hx : Ext w w') : ArgsIn w' A n cap xs :=
  ⟨h.rd.ext hx, h.len, h.cap, h.small, fun a ha => (h.all a ha).ext hx⟩
theorem ArgsIn.get {w : World} {A : Option Addr} {n cap : Nat} {xs : List Ar} (h : ArgsIn w A n cap xs) {k : Nat} {a : Ar} (hk : xs[k]? = some a) :
    ∃ b off, A = some ⟨b, off, none⟩ ∧ ArAt w b (off + k * 3) a ∧ ArOk w a := by
  have hc : ∀ j, j < 3 → (acells xs)[k * 3 + j]? = a.cells[j]? := acells_at xs k a hk
  obtain ⟨b, off, rfl, _, h0⟩ := h.rd (k * 3 + 0) (.int .i64 a.x.R) (by rw [hc 0 (by omega)]; rfl)
  refine ⟨b, off, rfl, ?_, h.all a (List.mem_of_getElem? hk)⟩
  have hg : ∀ j u, j < 3 → a.cells[j]? = some u → w.cell? ⟨b, off + k * 3 + j, none⟩ = some u := fun j u hj hu => by
    obtain ⟨b', off', he, _, h1⟩ := h.rd (k * 3 + j) u (by rw [hc j hj]; exact hu)
    simp only [Option.some.injEq, Addr.mk.injEq, and_true] at he
    obtain ⟨rfl, rfl⟩ := he
    rw [← h1]; congr 2; omega
  exact ⟨hg 0 _ (by omega) rfl, hg 1 _ (by omega) rfl, hg 2 _ (by omega) rfl⟩
theorem ArgsIn.at {w : World} {A : Option Addr} {n cap : Nat} {xs : List Ar} (h : ArgsIn w A n cap xs) {k : Nat} (hk : k < n) :
    ∃ a b off, xs[k]? = some a ∧ A = some ⟨b, off, none⟩ ∧ ArAt w b (off + k * 3) a ∧ ArOk w a := by
  have hl : k < xs.length := by rw [h.len]; exact hk
  obtain ⟨b, off, e, h1, h2⟩ := h.get (List.getElem?_eq_getElem hl)
  exact ⟨_, b, off, List.getElem?_eq_getElem hl, e, h1, h2⟩
/-- What lies in one block from its start on. -/
theorem Rd.of_row {w : World} {b : Nat} {cs : List Value} {t : TypeId} (h : w.heap[b]? = some (.cells cs.toArray t)) (base : Nat) (hb : base ≤ b) : Rd base w (some ⟨b, 0, none⟩) cs := fun j u hu => by
  refine ⟨b, 0, rfl, hb, ?_⟩
  simp only [World.cell?, h, Nat.zero_add]
  simpa using hu
/-- What a function of arrays hands back. -/
def ResA (w : World) (x : NA) (e : Ending) (w' : World) : Prop :=
  ∃ D m cc, e = .returned (AV x.R x.C (.slice D m cc)) ∧ ArrN w.heap.size w' D m cc x.l ∧ Ext w w'
def oneA (v : Val) : NA := ⟨1, 1, [v]⟩
def aloneO (f : Int) : NA := oneA (bad_ f)
end Go.Proofs.YtfpaalkllfbeoaaGreatDoor
namespace Go.Proofs.YtfpaalkllfbeoaaGreatDoor
open Go.RowKit NM
/-- Any array, and where its values lie. -/
structure GA where
  r : Int
  c : Int
  A : Option Addr
  n : Nat
  cap : Nat
  l : List Val
def GA.cells (g : GA) : List Value := [.int .i64 g.r, .int .i64 g.c, .slice g.A g.n g.cap]
def gcells (gs : List GA) : List Value := gs.flatMap GA.cells
def GA.right (g : GA) : Bool := rightA g.r g.c g.l
def Ar.toG (a : Ar) : GA := ⟨a.x.R, a.x.C, a.A, a.n, a.cap, a.x.l⟩
def GAt (w : World) (b o : Nat) (g : GA) : Prop :=
  w.cell? ⟨b, o, none⟩ = some (.int .i64 g.r) ∧ w.cell? ⟨b, o + 1, none⟩ = some (.int .i64 g.c) ∧ w.cell? ⟨b, o + 2, none⟩ = some (.slice g.A g.n g.cap)
theorem gcells_at : ∀ (gs : List GA) (i : Nat) (g : GA), gs[i]? = some g → ∀ j, j < 3 → (gcells gs)[i * 3 + j]? = g.cells[j]?
  | [], i, x, h, j, hj => by simp at h
  | y :: l, 0, x, h, j, hj => by
    obtain rfl : y = x := by simpa using h
    rw [gcells, List.flatMap_cons, List.getElem?_append_left (by simp [GA.cells]; omega)]
    simp
  | y :: l, i + 1, x, h, j, hj => by
    rw [gcells, List.flatMap_cons, List.getElem?_append_right (by simp [GA.cells]; omega)]
    rw [show (i + 1) * 3 + j - y.cells.length = i * 3 + j by simp [GA.cells]; omega]
    exact gcells_at l i x (by simpa using h) j hj
structure ArgsG (w : World) (A : Option Addr) (n cap : Nat) (gs : List GA) : Prop where
  rd : Rd 0 w A (gcells gs)
  len : gs.length = n
  cap : n ≤ cap
  small : n ≤ 9223372036854775807
  all : ∀ g ∈ gs, ArrIn w g.A g.n g.cap g.l
theorem ArgsG.ext {w w' : World} {A : Option Addr} {n cap : Nat} {gs : List GA} (h : ArgsG w A n cap gs) (hx : Ext w w') : ArgsG w' A n cap gs :=
  ⟨h.rd.ext hx, h.len, h.cap, h.small, fun g hg => (h.all g hg).ext hx⟩
theorem ArgsG.get {w : World} {A : Option Addr} {n cap : Nat} {gs : List GA} (h : ArgsG w A n cap gs) {k : Nat} {g : GA} (hk : gs[k]? = some g) :
    ∃ b off, A = some ⟨b, off, none⟩ ∧ GAt w b (off + k * 3) g ∧ ArrIn w g.A g.n g.cap g.l := by
  have hc : ∀ j, j < 3 → (gcells gs)[k * 3 + j]? = g.cells[j]? := gcells_at gs k g hk
  obtain ⟨b, off, rfl, _, h0⟩ := h.rd (k * 3 + 0) (.int .i64 g.r) (by rw [hc 0 (by omega)]; rfl)
  refine ⟨b, off, rfl, ?_, h.all g (List.mem_of_getElem? hk)⟩
  have hg : ∀ j u, j < 3 → g.cells[j]? = some u → w.cell? ⟨b, off + k * 3 + j, none⟩ = some u := fun j u hj hu => by
    obtain ⟨b', off', he, _, h1⟩ := h.rd (k * 3 + j) u (by rw [hc j hj]; exact hu)
    simp only [Option.some.injEq, Addr.mk.injEq, and_true] at he
    obtain ⟨rfl, rfl⟩ := he
    rw [← h1]; congr 2; omega
  exact ⟨hg 0 _ (by omega) rfl, hg 1 _ (by omega) rfl, hg 2 _ (by omega) rfl⟩
theorem ArgsG.at {w : World} {A : Option Addr} {n cap : Nat} {gs : List GA} (h : ArgsG w A n cap gs) {k : Nat} (hk : k < n) :
    ∃ g b off, gs[k]? = some g ∧ A = some ⟨b, off, none⟩ ∧ GAt w b (off + k * 3) g ∧ ArrIn w g.A g.n g.cap g.l := by
  have hl : k < gs.length := by rw [h.len]; exact hk
  obtain ⟨b, off, e, h1, h2⟩ := h.get (List.getElem?_eq_getElem hl)
  exact ⟨_, b, off, List.getElem?_eq_getElem hl, e, h1, h2⟩
theorem rightA_shape {r c : Int} {l : List Val} (h : rightA r c l = true) : ∃ R C : Nat, r = (R : Int) ∧ c = (C : Int) := by
  unfold rightA at h
  simp only [Bool.and_eq_true] at h
  have := fits_mul h.1.1
  exact ⟨r.toNat, c.toNat, by omega, by omega⟩
theorem gcells_toG : ∀ xs : List Ar, gcells (xs.map Ar.toG) = acells xs
  | [] => rfl
  | a :: xs => by
    show GA.cells (Ar.toG a) ++ gcells (xs.map Ar.toG) = Ar.cells a ++ acells xs
    rw [gcells_toG xs]; rfl
theorem ArgsG.toIn {w : World} {A : Option Addr} {n cap : Nat} {xs : List Ar} (h : ArgsG w A n cap (xs.map Ar.toG)) (hr : ∀ a ∈ xs, a.x.right) : ArgsIn w A n cap xs :=
  ⟨by rw [← gcells_toG]; exact h.rd, by rw [← h.len, List.length_map], h.cap, h.small, fun a ha => ⟨h.all a.toG (List.mem_map.2 ⟨a, ha, rfl⟩), hr a ha⟩⟩
theorem ArgsIn.toG {w : World} {A : Option Addr} {n cap : Nat} {xs : List Ar} (h : ArgsIn w A n cap xs) : ArgsG w A n cap (xs.map Ar.toG) :=
  ⟨by rw [gcells_toG]; exact h.rd, by rw [List.length_map]; exact h.len, h.cap, h.small, fun g hg => by obtain ⟨a, ha, rfl⟩ := List.mem_map.1 hg; exact (h.all a ha).arr⟩
/-- What Call tells of a function that there is, of so many arguments, each of which may be or not. -/
def callX (lo hi : Nat) (gs : List GA) (F : NA) : NA :=
  if gs.length < lo ∨ hi < gs.length then aloneO 2 else if gs.all GA.right then F else aloneO 9
end Go.Proofs.YtfpaalkllfbeoaaGreatDoor
namespace Go.Proofs.YtfpaalkllfbeoaaGreatDoor
open Go.RowKit NM
theorem ArrO.res {w w' : World} {e : Ending} {x : NA} (h : ArrO w.heap.size w' e x.R x.C x.l) (hl : x.l.length ≤ 9223372036854775807) (ho : x.ok) (hx : Ext w w') : ResA w x e w' := by
  obtain ⟨A, cap, rfl, h1, h2⟩ := h
  exact ⟨A, _, cap, rfl, ⟨h1, rfl, h2, hl, ho⟩, hx⟩
theorem one_res (v : Val) (w : World) (hv : v.ok) (hr : v.right) :
    Calls Tryz.prog 39 #[VV v.kind v.mant v.exp v.text v.truth v.fault] w fun e w' => ResA w (oneA v) e w' :=
  (one_right v.kind v.mant v.exp v.fault v.text v.truth w hv.2.1 hv.2.2.2.1 hr).mono fun e w' ⟨h1, h2⟩ => ArrO.res (x := oneA v) h1 (by simp [oneA]) (fun y hy => by rw [show y = v by simpa [oneA] using hy]; exact hv) h2
theorem ok_bad (f : Int) : (bad_ f).ok := badV_ok _ (by have := badF_bd f; unfold I64; omega)
end Go.Proofs.YtfpaalkllfbeoaaGreatDoor
namespace Go.Proofs.YtfpaalkllfbeoaaGreatDoor
open Go.RowKit NM
set_option maxHeartbeats 1000000 in
theorem galone_any (f : Int) (w : World) : Calls Tryz.prog 32 #[.int .i64 f] w fun e w' => ResA w (aloneO f) e w' := by
  go_enter Tryz.func32, Tryz.ntmps32
  go_wp2_with (go_at_call 73; (with_reducible refine (bad_any _ _).mono ?_); rintro e w' ⟨rfl, hb⟩; obtain ⟨os, d, rfl⟩ := hb.more; clear hb)
  go_at_call 39
  refine (one_res (bad_ f) _ (ok_bad f) (right_bad f)).mono ?_
  rintro e w' ⟨D, m, cc, rfl, hD, hb⟩
  obtain ⟨os2, d2, rfl⟩ := hb.more
  clear hb
  have hDr := hD.rd
  go_wp2_with fail
  exact bodyPost_ret (v := AV (oneA (bad_ f)).R (oneA (bad_ f)).C (.slice D m cc)) (by simp [results, Tryz.results32, go_sem]) rfl ⟨D, m, cc, rfl, ⟨(by (try simp only [more_more] at hDr); (try simp only [drew_more] at hDr); (try simp only [more_drew] at hDr); (try simp only [Array.append_assoc] at hDr); exact Rd.swap hDr (by first | (simp; done) | (simp; omega) | omega) (by first | (simp; done) | (simp; omega) | omega) (by first | (simp; done) | (simp; omega) | omega)), hD.len, hD.cap, hD.small, hD.ok⟩, by with_reducible repeat (first | exact Ext.refl _ | apply Ext.drew | apply Ext.alloc | apply Ext.more_)⟩
abbrev gfnE (lo hi : Int) (f : Value) : Value := .agg #[.int .i64 lo, .int .i64 hi, f]
def farrayL (p1 p2 : Nat) : Tab1 :=
  [([67, 79, 76, 85, 77, 78, 83], gfnE 1 1 (fn0 38)), ([68, 82, 79, 80], gfnE 1 3 (fn0 41)), ([70, 73, 76, 84, 69, 82], gfnE 2 3 (fn0 42)),
   ([72, 83, 84, 65, 67, 75], gfnE 1 32 (fn1 91 p1)), ([77, 77, 85, 76, 84], gfnE 2 2 (fn0 45)), ([82, 79, 87, 83], gfnE 1 1 (fn0 46)),
   ([83, 69, 81, 85, 69, 78, 67, 69], gfnE 1 4 (fn0 47)), ([83, 79, 82, 84], gfnE 1 3 (fn0 48)), ([84, 65, 75, 69], gfnE 1 3 (fn0 49)),
   ([84, 79, 67, 79, 76], gfnE 1 1 (fn0 50)), ([84, 79, 82, 79, 87], gfnE 1 1 (fn0 53)), ([84, 82, 65, 78, 83, 80, 79, 83, 69], gfnE 1 1 (fn0 54)),
   ([85, 78, 73, 81, 85, 69], gfnE 1 1 (fn0 56)), ([86, 83, 84, 65, 67, 75], gfnE 1 32 (fn1 91 p2))]
abbrev bxJ (fid : FuncId) : Obj := .cells #[fn0 fid] 71
def farrayB (p1 p2 : Nat) : List (Nat × Obj) := [(p1, bxJ 44), (p2, bxJ 57)]
theorem gfarray_pair (p1 p2 : Nat) : (farrayL p1 p2).Pairwise (fun p q => p.1 ≠ q.1) := by simp [farrayL]
theorem zero_gfn (w : World) : (zeroValue 58).run Tryz.prog w = .ok (.agg #[.int .i64 0, .int .i64 0, .nilFunc]) w := by kernel_rfl
theorem galloc_new (w : World) (o : Obj) : (w.alloc o).heap[w.heap.size]? = some o := Array.getElem?_push_size
theorem gstack_any (fid : FuncId) (w : World) :
    Calls Tryz.prog 43 #[.func (.func fid) #[] #[]] w fun e w' => e = .returned (.func (.func 91) #[] #[.pointer (some ⟨w.heap.size, 0, none⟩)]) ∧ w' = w.alloc (bxJ fid) := by
  go_enter Tryz.func43, Tryz.ntmps43
  go_wp2_with fail
  go_ret
  exact ⟨rfl, rfl⟩
set_option maxHeartbeats 1000000 in
theorem gtable_any (w : World) :
    Calls Tryz.prog 27 #[] w fun e w' => ∃ b, e = .returned (.map (some b)) ∧ ∃ p1 p2, TabS Tryz.prog 9 w b (farrayL p1 p2) (farrayB p1 p2) w' := by
  have hmm := @run_makeMap Tryz.prog
  have hT := TabS.start w Tryz.prog 9
  go_enter Tryz.func27, Tryz.ntmps27
  go_wp2_with (first | (go_at_call 43; (with_reducible refine (gstack_any _ _).mono ?_); rintro e w' ⟨rfl, hw⟩; have hT := hT.new (W' := w') (by rw [hw]; exact (Ext.refl _).alloc _) (by rw [hw]; exact galloc_new _ _); clear hw; (try (rw [show (w.alloc (Obj.map #[] 0)).heap.size = w.heap.size + 1 by simp] at hT))) | (refine wpL_insert rfl _ _ _ _ rfl 9 58 Tryz.underlying9 Tryz.underlying55 _ _ rfl hT.tab (by simp only [List.length_append, List.length_nil, List.length_cons, maxLen]; omega) _ rfl (by simp only [maxLen, ByteArray.size, List.size_toArray, List.length_cons, List.length_nil]; omega) _ rfl ?_; intro w1 ht1 hg1; have hT := hT.put ht1 hg1; clear ht1 hg1))
  go_ret
  exact ⟨w.heap.size, rfl, _, _, hT⟩
end Go.Proofs.YtfpaalkllfbeoaaGreatDoor
namespace Go.Proofs.YtfpaalkllfbeoaaGreatDoor
open Go.RowKit NM
abbrev CallG (w : World) (X : NA) : Ending → World → Prop := fun e w' => ∃ D m cc, e = .returned (.tuple #[AV X.R X.C (.slice D m cc), .bool true]) ∧ ArrN w.heap.size w' D m cc X.l ∧ Ext w w'
theorem all_at {gs : List GA} (h : ∀ j g, j < gs.length → gs[j]? = some g → g.right = true) : ∀ g ∈ gs, g.right = true := by
  intro g hg
  obtain ⟨j, hj, rfl⟩ := List.mem_iff_getElem.1 hg
  exact h j _ hj (List.getElem?_eq_getElem hj)
set_option maxHeartbeats 2000000 in
theorem gcall_any (s : ByteArray) (lo hi : Nat) (fid : FuncId) (ct : Nat → Nat → Array Value) (hs : s.size ≤ maxLen) (hl : ∀ p1 p2, tabAt (farrayL p1 p2) s.data.toList = some (gfnE lo hi (.func (.func fid) #[] (ct p1 p2))))
    (hent : ∀ (args : Array Value) (W : World), (callFunc fid args).run Tryz.prog W = .ok (.enter fid args) W) (hlo9 : lo ≤ 100) (hhi9 : hi ≤ 100)
    (A : Option Addr) (n cap : Nat) (gs : List GA) (w : World) (h : ArgsG w A n cap gs) (F : NA)
    (hf : (∀ g ∈ gs, g.right = true) → lo ≤ n → n ≤ hi → ∀ p1 p2 W, Ext w W → (∀ p ∈ farrayB p1 p2, W.heap[p.1]? = some p.2) → Calls Tryz.prog fid (#[.slice A n cap] ++ ct p1 p2) W fun e W' => ResA W F e W') :
    Calls Tryz.prog 18 #[.string s, .slice A n cap] w (CallG w (callX lo hi gs F)) := by
  have hsm := h.small
  have hlen := h.len
  by_cases q1 : n < lo
  · have hX : callX lo hi gs F = aloneO 2 := by unfold callX; rw [if_pos (by omega)]
    rw [hX]
    clear hf hlen hX
    go_enter Tryz.func18, Tryz.ntmps18
    go_wp2_with (first | (go_at_call 27; (with_reducible refine (gtable_any _).mono ?_); rintro e w' ⟨bm, rfl, p1, p2, hT⟩; have hbm := hT.hb; have hxT := hT.ext; have hbx := fun p hp => (hT.box p hp).2.2; have ht := hl p1 p2; generalize ct p1 p2 = c0 at ht; have HT := Lib.hid ht; clear ht; obtain ⟨os1, d1, rfl⟩ := hxT.more) | (refine wpL_look rfl _ _ _ rfl 9 58 Tryz.underlying9 Tryz.underlying55 _ _ rfl (hT.tab.ext (by with_reducible repeat (first | exact Ext.refl _ | apply Ext.drew | apply Ext.alloc | apply Ext.more_))) (gfarray_pair _ _) _ (zero_gfn _) _ rfl hs (gfnE lo hi (.func (.func fid) #[] c0)) true (by rw [HT.out]; rfl) (by rw [HT.out]; rfl) ?_) | (go_at_call 32; (with_reducible refine (galone_any _ _).mono ?_); rintro e w' ⟨D, m, cc, rfl, hD, hb⟩; obtain ⟨os5, d5, rfl⟩ := hb.more; clear hb; have hDr := hD.rd))
    all_goals exact bodyPost_ret (v := .tuple #[AV (aloneO 2).R (aloneO 2).C (.slice D m cc), .bool true]) (by simp [results, Tryz.results18, go_sem]) rfl ⟨D, m, cc, rfl, ⟨(by (try simp only [more_more] at hDr); (try simp only [drew_more] at hDr); (try simp only [more_drew] at hDr); (try simp only [Array.append_assoc] at hDr); exact Rd.swap hDr (by first | (simp; done) | (simp; omega) | omega) (by first | (simp; done) | (simp; omega) | omega) (by first | (simp; done) | (simp; omega) | omega)), hD.len, hD.cap, hD.small, hD.ok⟩, by with_reducible repeat (first | exact Ext.refl _ | apply Ext.drew | apply Ext.alloc | apply Ext.more_)⟩
  · by_cases q2 : hi < n
    · have hX : callX lo hi gs F = aloneO 2 := by unfold callX; rw [if_pos (by omega)]
      rw [hX]
      clear hf hlen hX
      go_enter Tryz.func18, Tryz.ntmps18
      go_wp2_with (first | (go_at_call 27; (with_reducible refine (gtable_any _).mono ?_); rintro e w' ⟨bm, rfl, p1, p2, hT⟩; have hbm := hT.hb; have hxT := hT.ext; have hbx := fun p hp => (hT.box p hp).2.2; have ht := hl p1 p2; generalize ct p1 p2 = c0 at ht; have HT := Lib.hid ht; clear ht; obtain ⟨os1, d1, rfl⟩ := hxT.more) | (refine wpL_look rfl _ _ _ rfl 9 58 Tryz.underlying9 Tryz.underlying55 _ _ rfl (hT.tab.ext (by with_reducible repeat (first | exact Ext.refl _ | apply Ext.drew | apply Ext.alloc | apply Ext.more_))) (gfarray_pair _ _) _ (zero_gfn _) _ rfl hs (gfnE lo hi (.func (.func fid) #[] c0)) true (by rw [HT.out]; rfl) (by rw [HT.out]; rfl) ?_) | (go_at_call 32; (with_reducible refine (galone_any _ _).mono ?_); rintro e w' ⟨D, m, cc, rfl, hD, hb⟩; obtain ⟨os5, d5, rfl⟩ := hb.more; clear hb; have hDr := hD.rd))
      all_goals exact bodyPost_ret (v := .tuple #[AV (aloneO 2).R (aloneO 2).C (.slice D m cc), .bool true]) (by simp [results, Tryz.results18, go_sem]) rfl ⟨D, m, cc, rfl, ⟨(by (try simp only [more_more] at hDr); (try simp only [drew_more] at hDr); (try simp only [more_drew] at hDr); (try simp only [Array.append_assoc] at hDr); exact Rd.swap hDr (by first | (simp; done) | (simp; omega) | omega) (by first | (simp; done) | (simp; omega) | omega) (by first | (simp; done) | (simp; omega) | omega)), hD.len, hD.cap, hD.small, hD.ok⟩, by with_reducible repeat (first | exact Ext.refl _ | apply Ext.drew | apply Ext.alloc | apply Ext.more_)⟩
    · have HF := Lib.hid hf
      obtain ⟨X, hX⟩ : ∃ X, callX lo hi gs F = X := ⟨_, rfl⟩
      rw [hX]
      have HX := Lib.hid hX
      clear hf hX
      go_enter Tryz.func18, Tryz.ntmps18
      go_wp2_with (first | (go_at_call 27; (with_reducible refine (gtable_any _).mono ?_); rintro e w' ⟨bm, rfl, p1, p2, hT⟩; have hbm := hT.hb; have hxT := hT.ext; have hbx := fun p hp => (hT.box p hp).2.2; have ht := hl p1 p2; have hfc := HF.out; have hfd := fun a b c => hfc a b c p1 p2; clear hfc; generalize ct p1 p2 = c0 at ht hfd; have HT := Lib.hid ht; clear ht; obtain ⟨os1, d1, rfl⟩ := hxT.more) | (refine wpL_look rfl _ _ _ rfl 9 58 Tryz.underlying9 Tryz.underlying55 _ _ rfl (hT.tab.ext (by with_reducible repeat (first | exact Ext.refl _ | apply Ext.drew | apply Ext.alloc | apply Ext.more_))) (gfarray_pair _ _) _ (zero_gfn _) _ rfl hs (gfnE lo hi (.func (.func fid) #[] c0)) true (by rw [HT.out]; rfl) (by rw [HT.out]; rfl) ?_))
      go_loopw [34] (fun i wr => ∃ k : Nat, k ≤ n ∧ i = .int .i64 k ∧ Ext ((more (w.alloc (Obj.cells #[.int .i64 0, .int .i64 0, .slice none 0 0] 31)) os1 d1).alloc (Obj.cells #[.int .i64 lo, .int .i64 hi, .func (.func fid) #[] c0] 58)) wr ∧ Hid (∀ j g, j < k → gs[j]? = some g → g.right = true)) (fun i _ => n - (intOf i).toNat)
      case atStart => exact ⟨0, Nat.zero_le _, rfl, Ext.refl _, fun j g hj => absurd hj (Nat.not_lt_zero _)⟩
      case round =>
        obtain ⟨k, hk, rfl, hX, HR⟩ := hrel
        have hX0 := hX
        obtain ⟨os, d, rfl⟩ := hX.more
        clear hX
        by_cases hlt : k < n
        · obtain ⟨g, b, off, hg, rfl, hat, harr⟩ := h.at hlt
          obtain ⟨v0, v1, v2⟩ := hat
          have hbl : b < w.heap.size := lt_of_cell v0
          have hcap := h.cap
          cases hr : rightA g.r g.c g.l with
          | true =>
            have hra := fun W => (hr ▸ right_any g.r g.c g.A g.n g.cap g.l W : ArrIn W g.A g.n g.cap g.l → _)
            clear hT hxT hX0 hbx hfd hlen
            go_wp2_with (go_at_call 33; refine (hra _ (harr.ext (by with_reducible repeat (first | exact Ext.refl _ | apply Ext.drew | apply Ext.alloc | apply Ext.more_)))).mono ?_; rintro e w' ⟨rfl, hb⟩; obtain ⟨os', d', rfl⟩ := hb.more; clear hb)
            refine ⟨⟨k + 1, by omega, by go_num, by with_reducible repeat (first | exact Ext.refl _ | apply Ext.drew | apply Ext.alloc | apply Ext.more_), ?_⟩, by simp [intOf]; omega⟩
            intro j g' hj hg'
            by_cases hjk : j = k
            · subst hjk
              obtain rfl : g = g' := by rw [hg] at hg'; simpa using hg'
              exact hr
            · exact HR.out j g' (by omega) hg'
          | false =>
            have hra := fun W => (hr ▸ right_any g.r g.c g.A g.n g.cap g.l W : ArrIn W g.A g.n g.cap g.l → _)
            obtain rfl : aloneO 9 = X := by
              rw [← HX.out]
              unfold callX
              rw [if_neg (by omega), if_neg]
              intro ha
              have := List.all_eq_true.1 ha g (List.mem_of_getElem? hg)
              unfold GA.right at this
              rw [hr] at this
              cases this
            clear hT hxT hX0 hbx hfd hlen HX
            go_wp2_with (first | (go_at_call 33; refine (hra _ (harr.ext (by with_reducible repeat (first | exact Ext.refl _ | apply Ext.drew | apply Ext.alloc | apply Ext.more_)))).mono ?_; rintro e w' ⟨rfl, hb⟩; obtain ⟨os', d', rfl⟩ := hb.more; clear hb) | (go_at_call 32; (with_reducible refine (galone_any _ _).mono ?_); rintro e w' ⟨D, m, cc, rfl, hD, hb⟩; obtain ⟨os5, d5, rfl⟩ := hb.more; clear hb; have hDr := hD.rd))
            exact bodyPost_ret (v := .tuple #[AV (aloneO 9).R (aloneO 9).C (.slice D m cc), .bool true]) (by simp [results, Tryz.results18, go_sem]) rfl ⟨D, m, cc, rfl, ⟨(by (try simp only [more_more] at hDr); (try simp only [drew_more] at hDr); (try simp only [more_drew] at hDr); (try simp only [Array.append_assoc] at hDr); exact Rd.swap hDr (by first | (simp; done) | (simp; omega) | omega) (by first | (simp; done) | (simp; omega) | omega) (by first | (simp; done) | (simp; omega) | omega)), hD.len, hD.cap, hD.small, hD.ok⟩, by with_reducible repeat (first | exact Ext.refl _ | apply Ext.drew | apply Ext.alloc | apply Ext.more_)⟩
        · obtain rfl : k = n := by omega
          have hall : ∀ g ∈ gs, g.right = true := all_at fun j g hj hg => HR.out j g (by omega) hg
          obtain rfl : F = X := by
            rw [← HX.out]
            unfold callX
            rw [if_neg (by omega), if_pos (List.all_eq_true.2 hall)]
          have hfe := hfd hall (by omega) (by omega)
          have HB := Lib.hid hbx
          clear hT hxT hbx hfd hlen hall HR HX
          go_wp2_with fail
          refine (hfe _ (by with_reducible repeat (first | exact Ext.refl _ | apply Ext.drew | apply Ext.alloc | apply Ext.more_)) (fun p hp => ?_)).mono ?_
          · have hb0 := HB.out p hp
            have hl0 := lt_block hb0
            exact (hX0.block (Nat.lt_of_lt_of_le hl0 (by simp))).trans ((((Ext.refl _).alloc _).block hl0).trans hb0)
          · rintro e w' ⟨D, m, cc, rfl, hD, hb⟩
            obtain ⟨os2, d2, rfl⟩ := hb.more
            clear hb
            have hDr := hD.rd
            go_wp2_with fail
            exact bodyPost_ret (v := .tuple #[AV F.R F.C (.slice D m cc), .bool true]) (by simp [results, Tryz.results18, go_sem]) rfl ⟨D, m, cc, rfl, ⟨(by (try simp only [more_more] at hDr); (try simp only [drew_more] at hDr); (try simp only [more_drew] at hDr); (try simp only [Array.append_assoc] at hDr); exact Rd.swap hDr (by first | (simp; done) | (simp; omega) | omega) (by first | (simp; done) | (simp; omega) | omega) (by first | (simp; done) | (simp; omega) | omega)), hD.len, hD.cap, hD.small, hD.ok⟩, by with_reducible repeat (first | exact Ext.refl _ | apply Ext.drew | apply Ext.alloc | apply Ext.more_)⟩
end Go.Proofs.YtfpaalkllfbeoaaGreatDoor
namespace Go.Proofs.YtfpaalkllfbeoaaGreatDoor
open Go.RowKit
/-- A variable that may come up at any time: the operation, its slot, what it makes. -/
abbrev FL := Nat × Nat × Obj
def ptrB (b : Nat) : Value := .pointer (some ⟨b, 0, none⟩)
def putF : List FL → (Nat → Option Nat) → Act → Act
  | [], _, a => a
  | x :: fs, β, a => match β x.1 with
    | none => putF fs β a
    | some b => (putF fs β a).put (some x.2.1) (ptrB b)
def setB (β : Nat → Option Nat) (j b : Nat) : Nat → Option Nat := fun i => if i = j then some b else β i
def np (fs : List FL) (β : Nat → Option Nat) : Nat := fs.countP fun x => (β x.1).isNone
theorem putF_congr {β β' : Nat → Option Nat} {a : Act} : ∀ {fs : List FL}, (∀ x ∈ fs, β x.1 = β' x.1) → putF fs β a = putF fs β' a
  | [], _ => rfl
  | x :: fs, h => by
    unfold putF
    rw [h x (by simp), putF_congr (fs := fs) fun y hy => h y (by simp [hy])]
theorem putF_put {β : Nat → Option Nat} {a : Act} {d : Option Tmp} {v : Value} : ∀ {fs : List FL}, (∀ x ∈ fs, d ≠ some x.2.1) → putF fs β (a.put d v) = (putF fs β a).put d v
  | [], _ => rfl
  | x :: fs, h => by
    unfold putF
    rw [putF_put (fs := fs) fun y hy => h y (by simp [hy])]
    cases β x.1 with
    | none => rfl
    | some b => exact Act.put_comm _ _ _ fun e he hx => h x (by simp) (by rw [he, hx])
theorem putF_set {β : Nat → Option Nat} {a : Act} {x : FL} {b : Nat} : ∀ {fs : List FL}, x ∈ fs → (fs.map (·.1)).Nodup → (fs.map (·.2.1)).Nodup → β x.1 = none → putF fs (setB β x.1 b) a = (putF fs β a).put (some x.2.1) (ptrB b)
  | [], h, _, _, _ => by cases h
  | y :: fs, h, hn, hs, hb => by
    simp only [List.map_cons, List.nodup_cons, List.mem_map, not_exists, not_and] at hn hs
    unfold putF
    by_cases hxy : y.1 = x.1
    · have hyx : y = x := by
        rcases List.mem_cons.1 h with rfl | h'
        · rfl
        · exact absurd hxy.symm (hn.1 x h')
      subst hyx
      have e : putF fs (setB β y.1 b) a = putF fs β a := putF_congr fun z hz => by
        unfold setB; rw [if_neg (fun e => hn.1 z hz e)]
      simp only [setB, if_true, hb] at e ⊢
      rw [e]
    · have hx : x ∈ fs := by
        rcases List.mem_cons.1 h with rfl | h'
        · exact absurd rfl hxy
        · exact h'
      have e : setB β x.1 b y.1 = β y.1 := by unfold setB; rw [if_neg hxy]
      rw [e, putF_set hx hn.2 hs.2 hb]
      cases β y.1 with
      | none => rfl
      | some b' => exact Act.put_comm _ _ _ fun d hd hd' => hs.1 x hx (by simp_all)
theorem np_set {β : Nat → Option Nat} {x : FL} {b : Nat} : ∀ {fs : List FL}, x ∈ fs → (fs.map (·.1)).Nodup → β x.1 = none → np fs (setB β x.1 b) + 1 = np fs β
  | [], h, _, _ => by cases h
  | y :: fs, h, hn, hb => by
    simp only [List.map_cons, List.nodup_cons, List.mem_map, not_exists, not_and] at hn
    unfold np
    rw [List.countP_cons, List.countP_cons]
    by_cases hxy : y.1 = x.1
    · have e : fs.countP (fun z => (setB β x.1 b z.1).isNone) = fs.countP (fun z => (β z.1).isNone) := by
        refine List.countP_congr fun z hz => ?_
        rw [show setB β x.1 b z.1 = β z.1 by unfold setB; rw [if_neg (fun e => hn.1 z hz (e.trans hxy.symm))]]
      rw [e, show setB β x.1 b y.1 = some b by unfold setB; rw [if_pos hxy], show β y.1 = none by rw [hxy]; exact hb]
      simp
    · have hx : x ∈ fs := by
        rcases List.mem_cons.1 h with rfl | h'
        · exact absurd rfl hxy
        · exact h'
      have ih := np_set (b := b) hx hn.2 hb
      unfold np at ih
      rw [show setB β x.1 b y.1 = β y.1 by unfold setB; rw [if_neg hxy]]
      omega
theorem nodup_inj {x y : FL} : ∀ {fs : List FL}, (fs.map (·.1)).Nodup → x ∈ fs → y ∈ fs → x.1 = y.1 → x = y
  | [], _, h, _, _ => by cases h
  | z :: fs, hn, hx, hy, e => by
    simp only [List.map_cons, List.nodup_cons, List.mem_map, not_exists, not_and] at hn
    rcases List.mem_cons.1 hx with rfl | hx'
    · rcases List.mem_cons.1 hy with rfl | hy'
      · rfl
      · exact absurd e.symm (hn.1 y hy')
    · rcases List.mem_cons.1 hy with rfl | hy'
      · exact absurd e (hn.1 x hx')
      · exact nodup_inj hn.2 hx' hy' e
theorem np_zero {β : Nat → Option Nat} {fs : List FL} (h : np fs β = 0) : ∀ x ∈ fs, ∃ b, β x.1 = some b := by
  intro x hx
  have := List.countP_eq_zero.1 h x hx
  cases hb : β x.1 with
  | none => simp [hb] at this
  | some b => exact ⟨b, rfl⟩
theorem np_pos {β : Nat → Option Nat} {fs : List FL} (h : np fs β ≠ 0) : ∃ x ∈ fs, β x.1 = none := by
  obtain ⟨x, hx, hb⟩ := List.countP_pos_iff.1 (Nat.pos_of_ne_zero h)
  exact ⟨x, hx, by simpa using hb⟩
section
variable {P : Program} {ops : Array Oper} {Q : Exit → Act → World → Prop} {tl : List Nat}
theorem wpOp_put1 {j : Nat} {oj : Oper} {d : Tmp} {v : Value} (hj : ops[j]? = some oj) (hsj : ∀ cs b, oj.op ≠ .select cs b) (h1 : d ∉ oj.looksAt ops) (h2 : oj.dst ≠ some d)
    (hQ : ∀ c a w, Q (.panic c) a w → Q (.panic c) (a.put (some d) v) w) {K : Act → World → Prop} {a : Act} {w : World} (h : wpOp P ops Q j K a w) :
    wpOp P ops Q j (fun a' w' => ∃ a'', a' = a''.put (some d) v ∧ K a'' w') (a.put (some d) v) w := by
  have h1' : ∀ e, (some d : Option Tmp) = some e → e ∉ oj.looksAt ops := fun e he => by obtain rfl := Option.some.inj he; exact h1
  have h2' : ∀ e, (some d : Option Tmp) = some e → oj.dst ≠ some e := fun e he => by obtain rfl := Option.some.inj he; exact h2
  unfold wpOp at *
  simp only [hj] at *
  rw [wanted_put oj a (some d) v h1']
  split
  · rename_i hw
    simp only [hw, if_true] at h
    rcases h with h | ⟨hasks, hlets⟩
    case inr => exact .inr ⟨by unfold Oper.asks at *; rw [execOp_put oj hsj a (some d) v h1']; exact hasks, hlets⟩
    refine .inl ?_
    unfold Oper.wp at *
    rw [execOp_put oj hsj a (some d) v h1']
    generalize (execOp a.eval oj).run P w = r at *
    cases r with
    | ok n w' =>
      cases n <;> simp only [Oper.upon] at h ⊢
      case value u => exact ⟨_, Act.put_comm a v u h2', h⟩
      case skip => exact ⟨_, Act.put_comm a v undef h2', h⟩
      case defer f => exact ⟨_, Act.put_comm { a with defers := f :: a.defers } v undef h2', h⟩
      case enter f args =>
        refine Calls.mono h fun e w'' he => ?_
        cases e with
        | returned u => exact ⟨_, Act.put_comm a v u h2', he⟩
        | panicked c => exact hQ _ _ _ he
        | outgrown => exact he
      case row row args => exact Rows.mono h fun u w'' he => ⟨_, Act.put_comm a v u h2', he⟩
    | halt x w' =>
      cases x <;> simp only [Oper.upon] at h ⊢
      case panic u => exact hQ _ _ _ h
  · rename_i hw
    simp only [hw] at h
    exact ⟨_, Act.put_comm a v undef h2', h⟩
theorem wpOp_putF {j : Nat} {oj : Oper} {β : Nat → Option Nat} (hj : ops[j]? = some oj) (hsj : ∀ cs b, oj.op ≠ .select cs b) (hQ : ∀ c a d v w, Q (.panic c) a w → Q (.panic c) (a.put d v) w)
    {K : Act → World → Prop} {a : Act} {w : World} (h : wpOp P ops Q j K a w) : ∀ {fs : List FL}, (∀ x ∈ fs, x.2.1 ∉ oj.looksAt ops ∧ oj.dst ≠ some x.2.1) →
    wpOp P ops Q j (fun a' w' => ∃ a'', a' = putF fs β a'' ∧ K a'' w') (putF fs β a) w
  | [], _ => wpOp_mono (fun a' w' h' => ⟨a', rfl, h'⟩) h
  | x :: fs, hx => by
    have ih := wpOp_putF (β := β) hj hsj hQ h (fs := fs) fun y hy => hx y (by simp [hy])
    unfold putF
    cases β x.1 with
    | none => exact ih
    | some b =>
      refine wpOp_mono ?_ (wpOp_put1 (v := ptrB b) hj hsj (hx x (by simp)).1 (hx x (by simp)).2 (fun c a w => hQ c a _ _ w) ih)
      rintro a' w' ⟨a1, rfl, a2, rfl, hk⟩
      exact ⟨a2, rfl, hk⟩
theorem yields_putF {S : World → Prop} {o : Oper} {v : Value} {a : Act} {β : Nat → Option Nat} (hs : ∀ cs b, o.op ≠ .select cs b) (hy : YieldsIf P ops S o v a) : ∀ {fs : List FL}, (∀ x ∈ fs, x.2.1 ∉ o.looksAt ops) → YieldsIf P ops S o v (putF fs β a)
  | [], _ => hy
  | x :: fs, hx => by
    have ih := yields_putF (β := β) hs hy (fs := fs) fun y hy => hx y (by simp [hy])
    unfold putF
    cases β x.1 with
    | none => exact ih
    | some b =>
      have h1 : ∀ e, (some x.2.1 : Option Tmp) = some e → e ∉ o.looksAt ops := fun e he => by obtain rfl := Option.some.inj he; exact hx x (by simp)
      exact ih.of_same (execOp_put o hs _ _ _ h1) (wanted_put o _ _ _ h1)
/-- As 'wpAnyT'; an operation of 'pu' reads no memory: it may come up behind those of 'tl', too. -/
def wpAnyU (P : Program) (ops : Array Oper) (Q : Exit → Act → World → Prop) (S : World → Prop) (tl pu : List Nat) : Nat → Array Bool → Act → World → Prop
  | 0, listed, a, w => Region.ready .any ops listed = [] ∧ Q .normal a w
  | fuel + 1, listed, a, w =>
    (Region.ready .any ops listed = [] → Q .normal a w) ∧
    ∀ i ∈ Region.ready .any ops listed, wpOp P ops Q i (fun a' w' => (tl.contains i = false → (pu.contains i = true → S w) → S w') ∧ wpAnyU P ops Q S tl pu fuel (listed.setIfInBounds i true) a' w') a w
theorem wpAny_of_U {S : World → Prop} {pu : List Nat} : ∀ (fuel : Nat) (listed : Array Bool) (a : Act) (w : World), wpAnyU P ops Q S tl pu fuel listed a w → wpAny P .any ops Q fuel listed a w
  | 0, _, _, _, h => h
  | fuel + 1, _, _, _, h => ⟨h.1, fun i hi => wpOp_mono (fun a' w' h' => wpAny_of_U fuel _ a' w' h'.2) (h.2 i hi)⟩
/-- k is i, or waits for it by way of others that have not come up. -/
def dep (ops : Array Oper) (listed : Array Bool) (i : Nat) : Nat → Nat → Prop
  | 0, k => k = i
  | n + 1, k => k = i ∨ (listed.getD k false = false ∧ ∃ om, ops[k]? = some om ∧ ∃ e' ∈ om.after, Region.binds .any e' = true ∧ dep ops listed i n e'.on)
theorem dep_top {listed : Array Bool} {i : Nat} : ∀ {n k : Nat}, dep ops listed i n k → k = i ∨ listed.getD k false = false
  | 0, _, h => .inl h
  | _ + 1, _, .inl h => .inl h
  | _ + 1, _, .inr h => .inr h.1
theorem dep_set {listed : Array Bool} {i j : Nat} {oj : Oper} (hoj : ops[j]? = some oj) (hall : ∀ e ∈ oj.after, Region.binds .any e = true → listed.getD e.on false = true) (hnot : ∀ e ∈ oj.after, Region.binds .any e = true → e.on ≠ i) :
    ∀ (n k : Nat), dep ops listed i n k → dep ops (listed.setIfInBounds j true) i n k
  | 0, _, h => h
  | _ + 1, _, .inl h => .inl h
  | n + 1, k, .inr ⟨ho, om, hom, e', he', hb', hd⟩ => by
    refine .inr ⟨?_, om, hom, e', he', hb', dep_set hoj hall hnot n _ hd⟩
    have hje : j ≠ k := fun hje => by
      subst hje
      rw [hoj] at hom
      obtain rfl := Option.some.inj hom
      rcases dep_top hd with h | h
      · exact hnot e' he' hb' h
      · rw [hall e' he' hb'] at h; cases h
    rw [getD_set_ne false hje]; exact ho
/-- Every tail operation that has not come up waits for i, or for others that do. -/
def waits2 (ops : Array Oper) (tl : List Nat) (listed : Array Bool) (i : Nat) : Prop :=
  ∀ j oj, ops[j]? = some oj → tl.contains j = true → listed.getD j true = false → ∃ e ∈ oj.after, Region.binds .any e = true ∧ dep ops listed i 4 e.on
theorem wpAnyU_first {S : World → Prop} {pu : List Nat} {i : Nat} {oi : Oper} {v : Value} (hi : ops[i]? = some oi) (hsel : ∀ (j : Nat) (o : Oper) cs b, ops[j]? = some o → o.op ≠ .select cs b)
    (hQ : ∀ c a w, Q (.panic c) (a.put oi.dst v) w → Q (.panic c) a w) :
    ∀ (fuel : Nat) (listed : Array Bool) (a : Act) (w : World),
      (∀ j oj, ops[j]? = some oj → j ≠ i → listed.getD j true = false → (∀ e ∈ oj.after, Region.binds .any e = true → e.on ≠ i) → oi.apart ops oj = true) →
      waits2 ops tl listed i →
      i ∈ Region.ready .any ops listed → YieldsIf P ops S oi v a → S w →
      wpAnyU P ops Q S tl pu fuel (listed.setIfInBounds i true) (a.put oi.dst v) w → wpAnyU P ops Q S tl pu (fuel + 1) listed a w := by
  intro fuel
  induction fuel with
  | zero =>
    intro listed a w _ _ hr hy hS H
    refine ⟨fun h => (by rw [h] at hr; cases hr), fun j hj => ?_⟩
    by_cases hji : j = i
    · subst hji; exact hy.wpOp hi hS ⟨fun _ _ => hS, H⟩
    · have := ready_mono hj hji
      rw [H.1] at this
      cases this
  | succ fuel ih =>
    intro listed a w hfree hwt hr hy hS H
    refine ⟨fun h => (by rw [h] at hr; cases hr), fun j hj => ?_⟩
    by_cases hji : j = i
    · subst hji; exact hy.wpOp hi hS ⟨fun _ _ => hS, H⟩
    · have h1 := H.2 j (ready_mono hj hji)
      obtain ⟨hjun, oj, hoj, hall⟩ := mem_ready.1 hj
      have hnot : ∀ e ∈ oj.after, Region.binds .any e = true → e.on ≠ i := fun e he hb heq => by
        have h1 := hall e he hb
        have h0 := (mem_ready.1 hr).1
        rw [heq] at h1
        rcases Nat.lt_or_ge i listed.size with h' | h'
        · simp [h'] at h0 h1; rw [h0] at h1; cases h1
        · simp [Array.getElem?_eq_none h'] at h1
      have htj : tl.contains j = false := by
        cases hc : tl.contains j with
        | false => rfl
        | true =>
          obtain ⟨e, he, hb, ho⟩ := hwt j oj hoj hc hjun
          rcases dep_top ho with ho | ho
          · exact absurd ho (hnot e he hb)
          · have := hall e he hb
            rw [ho] at this; cases this
      have h2 := wpOp_putIf hoj (hfree j oj hoj hji hjun hnot) (fun cs b => hsel i oi cs b hi) (fun cs b => hsel j oj cs b hoj) hQ hy h1
      have hfree' : ∀ k ok, ops[k]? = some ok → k ≠ i → (listed.setIfInBounds j true).getD k true = false →
          (∀ e ∈ ok.after, Region.binds .any e = true → e.on ≠ i) → oi.apart ops ok = true := fun k ok hk hki hun hno => by
        refine hfree k ok hk hki ?_ hno
        by_cases hjk : j = k
        · subst hjk; exact hjun
        · rw [getD_set_ne true hjk] at hun; exact hun
      have hwt' : waits2 ops tl (listed.setIfInBounds j true) i := fun k ok hk htk hun => by
        obtain ⟨e, he, hb, ho⟩ := hwt k ok hk htk (by
          by_cases hjk : j = k
          · subst hjk; exact hjun
          · rw [getD_set_ne true hjk] at hun; exact hun)
        exact ⟨e, he, hb, dep_set hoj hall hnot _ _ ho⟩
      refine wpOp_mono (fun a' w' h3 => ⟨h3.2.1, ih (listed.setIfInBounds j true) a' w' hfree' hwt' (ready_mono hr (Ne.symm hji)) h3.1 (h3.2.1 htj fun _ => hS) ?_⟩) h2
      rw [Array.setIfInBounds_comm _ _ hji]
      exact h3.2.2
theorem wpAnyU_pure {S : World → Prop} {pu : List Nat} {i : Nat} {oi : Oper} {v : Value} (hi : ops[i]? = some oi) (hsel : ∀ (j : Nat) (o : Oper) cs b, ops[j]? = some o → o.op ≠ .select cs b)
    (hpi : pu.contains i = true) (hQ : ∀ c a w, Q (.panic c) (a.put oi.dst v) w → Q (.panic c) a w) :
    ∀ (fuel : Nat) (listed : Array Bool) (a : Act) (w : World),
      (∀ j oj, ops[j]? = some oj → j ≠ i → listed.getD j true = false → (∀ e ∈ oj.after, Region.binds .any e = true → e.on ≠ i) → oi.apart ops oj = true) →
      i ∈ Region.ready .any ops listed → YieldsIf P ops (fun _ => True) oi v a →
      wpAnyU P ops Q S tl pu fuel (listed.setIfInBounds i true) (a.put oi.dst v) w → wpAnyU P ops Q S tl pu (fuel + 1) listed a w := by
  intro fuel
  induction fuel with
  | zero =>
    intro listed a w _ hr hy H
    refine ⟨fun h => (by rw [h] at hr; cases hr), fun j hj => ?_⟩
    by_cases hji : j = i
    · subst hji; exact hy.wpOp hi trivial ⟨fun _ h => h hpi, H⟩
    · have := ready_mono hj hji
      rw [H.1] at this
      cases this
  | succ fuel ih =>
    intro listed a w hfree hr hy H
    refine ⟨fun h => (by rw [h] at hr; cases hr), fun j hj => ?_⟩
    by_cases hji : j = i
    · subst hji; exact hy.wpOp hi trivial ⟨fun _ h => h hpi, H⟩
    · have h1 := H.2 j (ready_mono hj hji)
      obtain ⟨hjun, oj, hoj, hall⟩ := mem_ready.1 hj
      have hnot : ∀ e ∈ oj.after, Region.binds .any e = true → e.on ≠ i := fun e he hb heq => by
        have h1 := hall e he hb
        have h0 := (mem_ready.1 hr).1
        rw [heq] at h1
        rcases Nat.lt_or_ge i listed.size with h' | h'
        · simp [h'] at h0 h1; rw [h0] at h1; cases h1
        · simp [Array.getElem?_eq_none h'] at h1
      have h2 := wpOp_putIf hoj (hfree j oj hoj hji hjun hnot) (fun cs b => hsel i oi cs b hi) (fun cs b => hsel j oj cs b hoj) hQ hy h1
      have hfree' : ∀ k ok, ops[k]? = some ok → k ≠ i → (listed.setIfInBounds j true).getD k true = false →
          (∀ e ∈ ok.after, Region.binds .any e = true → e.on ≠ i) → oi.apart ops ok = true := fun k ok hk hki hun hno => by
        refine hfree k ok hk hki ?_ hno
        by_cases hjk : j = k
        · subst hjk; exact hjun
        · rw [getD_set_ne true hjk] at hun; exact hun
      refine wpOp_mono (fun a' w' h3 => ⟨h3.2.1, ih (listed.setIfInBounds j true) a' w' hfree' (ready_mono hr (Ne.symm hji)) h3.1 ?_⟩) h2
      rw [Array.setIfInBounds_comm _ _ hji]
      exact h3.2.2
/-- What ends the region, one behind the other. -/
def wpTl (P : Program) (ops : Array Oper) (Q : Exit → Act → World → Prop) : List Nat → Act → World → Prop
  | [], a, w => Q .normal a w
  | i :: rest, a, w => wpOp P ops Q i (wpTl P ops Q rest) a w
def tailOk (ops : Array Oper) (tl : List Nat) : Array Bool → List Nat → Bool
  | listed, [] => (Region.ready .any ops listed).isEmpty
  | listed, i :: rest => (Region.ready .any ops listed == [i]) && tl.contains i && tailOk ops tl (listed.setIfInBounds i true) rest
theorem wpTl_sound {S : World → Prop} {pu : List Nat} : ∀ (tp : List Nat) (listed : Array Bool) (a : Act) (w : World), tailOk ops tl listed tp = true → wpTl P ops Q tp a w → wpAnyU P ops Q S tl pu tp.length listed a w
  | [], listed, a, w, ho, h => ⟨by simpa [tailOk] using ho, h⟩
  | i :: rest, listed, a, w, ho, h => by
    simp only [tailOk, Bool.and_eq_true, beq_iff_eq] at ho
    obtain ⟨⟨h1, h2⟩, h3⟩ := ho
    refine ⟨fun h0 => (by rw [h1] at h0; cases h0), fun j hj => ?_⟩
    rw [h1] at hj
    obtain rfl : j = i := by simpa using hj
    exact wpOp_mono (fun a' w' h' => ⟨fun ht => (by rw [h2] at ht; cases ht), wpTl_sound rest _ _ _ h3 h'⟩) h
theorem wpTl_op {i : Nat} {o : Oper} {rest : List Nat} {a : Act} {w : World} (hi : ops.toList[i]? = some o) (hw : Region.wanted o (yielded ops a.tmps) = true) (h : ∀ K : Act → World → Prop, (∀ a' w', wpTl P ops Q rest a' w' → K a' w') → o.wp P a w K Q) :
    wpTl P ops Q (i :: rest) a w := by
  have hi' : ops[i]? = some o := by simpa using hi
  show wpOp _ _ _ _ _ _ _
  unfold wpOp
  simp only [hi', hw, if_true]
  exact .inl (h _ fun a' w' hk => hk)
theorem wpTl_nil {a : Act} {w : World} (h : Q .normal a w) : wpTl P ops Q [] a w := h
/-- The walk by a plan, whatever the new variables' turns. -/
def wpFp (P : Program) (ops : Array Oper) (Q : Exit → Act → World → Prop) (W0 : World) (fs : List FL) (tp : List Nat) : List (Nat × Nat) → Act → (World → Prop) → Prop
  | [], a, E => ∀ (β : Nat → Option Nat) (w : World), Ext W0 w → E w → (∀ x ∈ fs, ∃ b, β x.1 = some b ∧ w.heap[b]? = some x.2.2 ∧ W0.heap.size ≤ b) →
      (∀ x ∈ fs, ∀ y ∈ fs, ∀ b, β x.1 = some b → β y.1 = some b → x.1 = y.1) → wpTl P ops Q tp (putF fs β a) w
  | (i, 0) :: rest, a, E => ∃ o v, ops[i]? = some o ∧ YieldsIf P ops (Ext W0) o v a ∧ wpFp P ops Q W0 fs tp rest (a.put o.dst v) E
  | (i, 2) :: rest, a, E => ∃ o v, ops[i]? = some o ∧ YieldsIf P ops (fun _ => True) o v a ∧ wpFp P ops Q W0 fs tp rest (a.put o.dst v) E
  | (i, _) :: rest, a, E => ∀ w, Ext W0 w → E w → wpOp P ops Q i (fun a' w' => Ext w w' ∧ ∃ E' : World → Prop, (∀ w1 w2, Ext w1 w2 → E' w1 → E' w2) ∧ E' w' ∧ wpFp P ops Q W0 fs tp rest a' E') a w
def floatsOk (ops : Array Oper) (fs : List FL) (tl : List Nat) : Bool :=
  fs.all (fun x => match ops[x.1]? with
    | some o => o.guard.isNone && o.dst == some x.2.1 && o.after.all (fun e => !Region.binds .any e) && !tl.contains x.1
    | none => false) &&
  decide (fs.map (·.1)).Nodup && decide (fs.map (·.2.1)).Nodup &&
  (List.range ops.size).all (fun j => (fs.map (·.1)).contains j || match ops[j]? with
    | none => true
    | some oj =>
      if tl.contains j then fs.all (fun x => oj.after.any (fun e => Region.binds .any e && e.on == x.1))
      else oj.after.all (fun e => !Region.binds .any e || !(fs.map (·.1)).contains e.on) &&
        fs.all (fun x => !(oj.looksAt ops).contains x.2.1 && oj.dst != some x.2.1 && (match ops[x.1]? with | some o => oj.apart ops o | none => false)))
def depB (ops : Array Oper) (F : List Nat) (listed : Array Bool) (i : Nat) : Nat → Nat → Bool
  | 0, k => k == i
  | n + 1, k => k == i || (!F.contains k && !listed.getD k false && match ops[k]? with | some om => om.after.any (fun e' => Region.binds .any e' && depB ops F listed i n e'.on) | none => false)
def planF (ops : Array Oper) (F : List Nat) (tl pu : List Nat) : Array Bool → List (Nat × Nat) → Bool
  | listed, [] => (List.range ops.size).all (fun j => listed.getD j true || tl.contains j)
  | listed, (i, 0) :: rest => Region.free .any ops listed i && (Region.ready .any ops listed).contains i && !tl.contains i && !F.contains i &&
      tl.all (fun j => listed.getD j true || match ops[j]? with | some oj => oj.after.any (fun e => Region.binds .any e && depB ops F listed i 4 e.on) | none => true) && planF ops F tl pu (listed.setIfInBounds i true) rest
  | listed, (i, 2) :: rest => Region.free .any ops listed i && (Region.ready .any ops listed).contains i && !tl.contains i && !F.contains i && pu.contains i && planF ops F tl pu (listed.setIfInBounds i true) rest
  | listed, (i, _) :: rest => (Region.ready .any ops listed == [i]) && !tl.contains i && !F.contains i && !pu.contains i && planF ops F tl pu (listed.setIfInBounds i true) rest
def listAll (listed : Array Bool) (pl : List (Nat × Nat)) : Array Bool := pl.foldl (fun l x => l.setIfInBounds x.1 true) listed
/-- How far the floats have come up. -/
structure Rel (fs : List FL) (listed lF : Array Bool) (β : Nat → Option Nat) : Prop where
  size : listed.size = lF.size
  main : ∀ j, j ∉ fs.map (·.1) → listed[j]? = lF[j]?
  done : ∀ x ∈ fs, listed[x.1]? = some (β x.1).isSome ∧ lF[x.1]? = some true
theorem Rel.step {fs : List FL} {listed lF : Array Bool} {β : Nat → Option Nat} (h : Rel fs listed lF β) {i : Nat} (hi : i ∉ fs.map (·.1)) : Rel fs (listed.setIfInBounds i true) (lF.setIfInBounds i true) β := by
  refine ⟨by simp [h.size], fun j hj => ?_, fun x hx => ?_⟩
  · rw [Array.getElem?_setIfInBounds, Array.getElem?_setIfInBounds, h.size, h.main j hj]
  · have hne : i ≠ x.1 := fun e => hi (by rw [e]; exact List.mem_map.2 ⟨x, hx, rfl⟩)
    rw [Array.getElem?_setIfInBounds_ne hne, Array.getElem?_setIfInBounds_ne hne]
    exact h.done x hx
theorem Rel.float {fs : List FL} {listed lF : Array Bool} {β : Nat → Option Nat} (h : Rel fs listed lF β) {x : FL} (hx : x ∈ fs) (b : Nat) : Rel fs (listed.setIfInBounds x.1 true) lF (setB β x.1 b) := by
  refine ⟨by simp [h.size], fun j hj => ?_, fun y hy => ?_⟩
  · rw [Array.getElem?_setIfInBounds_ne (fun e => hj (by rw [← e]; exact List.mem_map.2 ⟨x, hx, rfl⟩))]; exact h.main j hj
  · refine ⟨?_, (h.done y hy).2⟩
    have hl := (h.done y hy).1
    by_cases hxy : x.1 = y.1
    · rw [← hxy, Array.getElem?_setIfInBounds_self]
      have : x.1 < listed.size := by rw [hxy]; exact (Array.getElem?_eq_some_iff.1 hl).1
      simp [this, setB]
    · rw [Array.getElem?_setIfInBounds_ne hxy, hl]
      unfold setB; rw [if_neg (fun e => hxy e.symm)]
theorem getD_of {l : Array Bool} {j : Nat} {b d : Bool} (h : l[j]? = some b) : l.getD j d = b := by simp [h]
theorem getD_same {l l' : Array Bool} {j : Nat} {d : Bool} (h : l[j]? = l'[j]?) : l.getD j d = l'.getD j d := by simp [h]
theorem dep_of {fs : List FL} {listed lF : Array Bool} {β : Nat → Option Nat} (hR : Rel fs listed lF β) {i : Nat} : ∀ (n k : Nat), depB ops (fs.map (·.1)) lF i n k = true → dep ops listed i n k
  | 0, k, h => by show k = i; simpa [depB] using h
  | n + 1, k, h => by
    simp only [depB, Bool.or_eq_true, beq_iff_eq, Bool.and_eq_true, Bool.not_eq_true'] at h
    rcases h with h | ⟨⟨hF, hun⟩, h⟩
    · exact .inl h
    · right
      refine ⟨by rw [getD_same (hR.main k (by simpa using hF))]; exact hun, ?_⟩
      cases hom : ops[k]? with
      | none => rw [hom] at h; cases h
      | some om =>
        rw [hom] at h
        obtain ⟨e', he', hb'⟩ := Array.any_eq_true'.1 h
        simp only [Bool.and_eq_true] at hb'
        exact ⟨om, rfl, e', he', hb'.1, dep_of hR n _ hb'.2⟩
/-- What floatsOk says. -/
structure FOk (ops : Array Oper) (fs : List FL) (tl : List Nat) : Prop where
  fl : ∀ x ∈ fs, ∃ o, ops[x.1]? = some o ∧ o.guard = none ∧ o.dst = some x.2.1 ∧ (∀ e ∈ o.after, Region.binds .any e = false) ∧ tl.contains x.1 = false
  n1 : (fs.map (·.1)).Nodup
  n2 : (fs.map (·.2.1)).Nodup
  tail : ∀ j oj, ops[j]? = some oj → j ∉ fs.map (·.1) → tl.contains j = true → ∀ x ∈ fs, ∃ e ∈ oj.after, Region.binds .any e = true ∧ e.on = x.1
  main : ∀ j oj, ops[j]? = some oj → j ∉ fs.map (·.1) → tl.contains j = false → (∀ e ∈ oj.after, Region.binds .any e = true → e.on ∉ fs.map (·.1)) ∧ ∀ x ∈ fs, x.2.1 ∉ oj.looksAt ops ∧ oj.dst ≠ some x.2.1 ∧ ∀ o, ops[x.1]? = some o → oj.apart ops o = true
theorem FOk.of {fs : List FL} (h : floatsOk ops fs tl = true) : FOk ops fs tl := by
  simp only [floatsOk, Bool.and_eq_true, decide_eq_true_eq, List.all_eq_true] at h
  obtain ⟨⟨⟨h1, h2⟩, h3⟩, h4⟩ := h
  refine ⟨fun x hx => ?_, h2, h3, fun j oj hj hn ht x hx => ?_, fun j oj hj hn ht => ?_⟩
  · have := h1 x hx
    cases ho : ops[x.1]? with
    | none => rw [ho] at this; cases this
    | some o =>
      rw [ho] at this
      simp only [Bool.and_eq_true, Bool.not_eq_true', Option.isNone_iff_eq_none, beq_iff_eq, Array.all_eq_true_iff_forall_mem] at this
      exact ⟨o, rfl, this.1.1.1, this.1.1.2, this.1.2, this.2⟩
  · have := h4 j (List.mem_range.2 (Array.getElem?_eq_some_iff.1 hj).1)
    rw [show (fs.map (·.1)).contains j = false by simpa using hn, hj] at this
    simp only [Bool.false_or, ht, if_true, List.all_eq_true] at this
    obtain ⟨e, he, hb⟩ := Array.any_eq_true'.1 (this x hx)
    simp only [Bool.and_eq_true, beq_iff_eq] at hb
    exact ⟨e, he, hb⟩
  · have := h4 j (List.mem_range.2 (Array.getElem?_eq_some_iff.1 hj).1)
    rw [show (fs.map (·.1)).contains j = false by simpa using hn, hj] at this
    simp only [Bool.false_or, ht, Bool.false_eq_true, if_false, Bool.and_eq_true, List.all_eq_true, Array.all_eq_true_iff_forall_mem] at this
    refine ⟨fun e he hb hin => ?_, fun x hx => ?_⟩
    · have := this.1 e he
      rw [hb] at this
      simp only [Bool.not_true, Bool.false_or, Bool.not_eq_true'] at this
      exact absurd hin (by simpa using this)
    · have := this.2 x hx
      obtain ⟨⟨a1, a2⟩, a3⟩ := this
      refine ⟨by simpa using a1, by simpa using a2, fun o ho => ?_⟩
      rw [ho] at a3
      exact a3
theorem wpFp_sound {W0 : World} {fs : List FL} {tp pu : List Nat} (hok : FOk ops fs tl) (hsel : Region.noSelect ops = true) (hQ : ∀ c a d v w, Q (.panic c) (a.put d v) w → Q (.panic c) a w) (hQ' : ∀ c a d v w, Q (.panic c) a w → Q (.panic c) (a.put d v) w)
    (hob : ∀ x ∈ fs, ∀ o, ops[x.1]? = some o → ∀ (a : Act) (w : World), (execOp a.eval o).run P w = .ok (.value (ptrB w.heap.size)) (w.alloc x.2.2)) :
    ∀ (m : Nat) (pl : List (Nat × Nat)) (listed lF : Array Bool) (β : Nat → Option Nat) (a : Act) (E : World → Prop) (w : World), pl.length + np fs β = m → Rel fs listed lF β →
      planF ops (fs.map (·.1)) tl pu lF pl = true → tailOk ops tl (listAll lF pl) tp = true → Ext W0 w → (∀ w1 w2, Ext w1 w2 → E w1 → E w2) → E w →
      (∀ x ∈ fs, ∀ b, β x.1 = some b → w.heap[b]? = some x.2.2 ∧ W0.heap.size ≤ b) → (∀ x ∈ fs, ∀ y ∈ fs, ∀ b, β x.1 = some b → β y.1 = some b → x.1 = y.1) →
      wpFp P ops Q W0 fs tp pl a E → wpAnyU P ops Q (Ext W0) tl pu (m + tp.length) listed (putF fs β a) w := by
  intro m
  induction m with
  | zero =>
    intro pl listed lF β a E w hm hR hpl htp hX hst hE hbl hinj h
    obtain rfl : pl = [] := List.eq_nil_of_length_eq_zero (by omega)
    have hz : np fs β = 0 := by simpa using hm
    have hdone := np_zero hz
    have hl : listed = lF := by
      apply Array.ext_getElem?
      intro j
      by_cases hj : j ∈ fs.map (·.1)
      · obtain ⟨x, hx, rfl⟩ := List.mem_map.1 hj
        obtain ⟨b, hb⟩ := hdone x hx
        rw [(hR.done x hx).1, (hR.done x hx).2, hb]; rfl
      · exact hR.main j hj
    subst hl
    rw [Nat.zero_add]
    exact wpTl_sound tp _ _ _ htp (h β w hX hE (fun x hx => by obtain ⟨b, hb⟩ := hdone x hx; exact ⟨b, hb, hbl x hx b hb⟩) hinj)
  | succ m ih =>
    intro pl listed lF β a E w hm hR hpl htp hX hst hE hbl hinj h
    have hal : ∀ x ∈ fs, β x.1 = none → wpOp P ops Q x.1 (fun a' w' => (tl.contains x.1 = false → (pu.contains x.1 = true → Ext W0 w) → Ext W0 w') ∧ wpAnyU P ops Q (Ext W0) tl pu (m + tp.length) (listed.setIfInBounds x.1 true) a' w') (putF fs β a) w := by
      intro x hx hb
      obtain ⟨o, ho, hg, hd, _, _⟩ := hok.fl x hx
      unfold wpOp
      simp only [ho]
      rw [if_pos (by simp [Region.wanted, hg])]
      refine .inl ?_
      unfold Oper.wp
      rw [hob x hx o ho]
      have hnp := np_set (b := w.heap.size) hx hok.n1 hb
      have hXa : Ext w (w.alloc x.2.2) := (Ext.refl w).alloc _
      have key := ih pl (listed.setIfInBounds x.1 true) lF (setB β x.1 w.heap.size) a E (w.alloc x.2.2) (by omega) (hR.float hx _) hpl htp (hX.trans hXa) hst (hst _ _ hXa hE) ?_ ?_ h
      · rw [putF_set hx hok.n1 hok.n2 hb] at key
        simp only [Oper.upon, hd]
        exact ⟨fun _ _ => hX.trans hXa, key⟩
      · intro y hy b hyb
        by_cases hxy : y.1 = x.1
        · have hyx : y = x := by
            have := hok.n1
            exact nodup_inj this hy hx hxy
          subst hyx
          simp only [setB, if_true, Option.some.injEq] at hyb
          subst hyb
          exact ⟨heap_alloc_new _ _, hX.size⟩
        · simp only [setB, hxy, if_false] at hyb
          obtain ⟨h1, h2⟩ := hbl y hy b hyb
          have hlt : b < w.heap.size := by
            rcases Nat.lt_or_ge b w.heap.size with hl | hl
            · exact hl
            · rw [Array.getElem?_eq_none hl] at h1; cases h1
          exact ⟨by rw [hXa.block hlt]; exact h1, h2⟩
      · intro y hy z hz b hyb hzb
        have hlt : ∀ u ∈ fs, β u.1 = some b → b < w.heap.size := fun u hu hub => by
          obtain ⟨h1, _⟩ := hbl u hu b hub
          rcases Nat.lt_or_ge b w.heap.size with hl | hl
          · exact hl
          · rw [Array.getElem?_eq_none hl] at h1; cases h1
        unfold setB at hyb hzb
        split at hyb
        · rename_i e1
          split at hzb
          · rename_i e2; rw [e1, e2]
          · have := hlt z hz hzb
            simp only [Option.some.injEq] at hyb
            omega
        · split at hzb
          · have := hlt y hy hyb
            simp only [Option.some.injEq] at hzb
            omega
          · exact hinj y hy z hz b hyb hzb
    have hfr : ∀ x ∈ fs, β x.1 = none → x.1 ∈ Region.ready .any ops listed := by
      intro x hx hb
      obtain ⟨o, ho, _, _, ha, _⟩ := hok.fl x hx
      refine mem_ready.2 ⟨?_, o, ho, fun e he hbi => ?_⟩
      · rw [getD_of (hR.done x hx).1, hb]; rfl
      · rw [ha e he] at hbi; cases hbi
    have hfl : ∀ x ∈ fs, x.1 ∈ Region.ready .any ops listed → β x.1 = none := by
      intro x hx hr
      have h0 := (mem_ready.1 hr).1
      rw [getD_of (hR.done x hx).1] at h0
      cases hb : β x.1 with
      | none => rfl
      | some b => rw [hb] at h0; cases h0
    have hto : ∀ j, j ∉ fs.map (·.1) → j ∈ Region.ready .any ops listed → j ∈ Region.ready .any ops lF := by
      intro j hj hr
      obtain ⟨h0, o, ho, ha⟩ := mem_ready.1 hr
      refine mem_ready.2 ⟨by rw [← getD_same (hR.main j hj)]; exact h0, o, ho, fun e he hb => ?_⟩
      have h1 := ha e he hb
      by_cases hin : e.on ∈ fs.map (·.1)
      · obtain ⟨x, hx, hxe⟩ := List.mem_map.1 hin
        rw [← hxe, getD_of (hR.done x hx).2]
      · rw [← getD_same (hR.main _ hin)]; exact h1
    have hfrom : ∀ j oj, ops[j]? = some oj → j ∉ fs.map (·.1) → tl.contains j = false → j ∈ Region.ready .any ops lF → j ∈ Region.ready .any ops listed := by
      intro j oj hoj hj ht hr
      obtain ⟨h0, o, ho, ha⟩ := mem_ready.1 hr
      obtain rfl : oj = o := by rw [hoj] at ho; exact Option.some.inj ho
      refine mem_ready.2 ⟨by rw [getD_same (hR.main j hj)]; exact h0, oj, hoj, fun e he hb => ?_⟩
      rw [getD_same (hR.main _ ((hok.main j oj hoj hj ht).1 e he hb))]
      exact ha e he hb
    match pl, hm, hpl, htp, h with
    | [], hm, hpl, htp, h =>
      have hnz : np fs β ≠ 0 := by simp at hm; omega
      obtain ⟨x0, hx0, hb0⟩ := np_pos hnz
      rw [show m + 1 + tp.length = (m + tp.length) + 1 by omega]
      refine ⟨fun h0 => (by have := hfr x0 hx0 hb0; rw [h0] at this; cases this), fun j hj => ?_⟩
      by_cases hin : j ∈ fs.map (·.1)
      · obtain ⟨x, hx, rfl⟩ := List.mem_map.1 hin
        exact hal x hx (hfl x hx hj)
      · exfalso
        obtain ⟨h0, oj, hoj, ha⟩ := mem_ready.1 hj
        rw [getD_same (hR.main j hin)] at h0
        simp only [planF, List.all_eq_true] at hpl
        have := hpl j (List.mem_range.2 (Array.getElem?_eq_some_iff.1 hoj).1)
        rw [h0, Bool.false_or] at this
        obtain ⟨e, he, hb, hon⟩ := hok.tail j oj hoj hin this x0 hx0
        have h1 := ha e he hb
        rw [hon, getD_of (hR.done x0 hx0).1, hb0] at h1
        cases h1
    | (i, 0) :: rest, hm, hpl, htp, h =>
      obtain ⟨o, v, hi, hy, h⟩ := h
      simp only [planF, Bool.and_eq_true, Bool.not_eq_true'] at hpl
      obtain ⟨⟨⟨⟨⟨h1, h2⟩, h3⟩, h3'⟩, h4⟩, h5⟩ := hpl
      have hiF : i ∉ fs.map (·.1) := by simpa using h3'
      obtain ⟨hm1, hm2⟩ := hok.main i o hi hiF h3
      have key := ih rest (listed.setIfInBounds i true) (lF.setIfInBounds i true) β (a.put o.dst v) E w (by simp at hm; omega) (hR.step hiF) h5 htp hX hst hE hbl hinj h
      rw [putF_put fun x hx => (hm2 x hx).2.1] at key
      rw [show m + 1 + tp.length = (m + tp.length) + 1 by omega]
      refine wpAnyU_first hi (Region.noSelect_spec hsel) (fun c a w => hQ c a _ _ w) _ _ _ _ ?_ ?_ (hfrom i o hi hiF h3 (by simpa using h2)) (yields_putF (Region.noSelect_spec hsel i o · · hi) hy fun x hx => (hm2 x hx).1) hX key
      · intro j oj hj hji hun hno
        by_cases hin : j ∈ fs.map (·.1)
        · obtain ⟨x, hx, rfl⟩ := List.mem_map.1 hin
          exact (hm2 x hx).2.2 oj hj
        · exact Region.free_spec hi h1 j oj hj hji (by rw [← getD_same (hR.main j hin)]; exact hun) hno
      · intro j oj hj htj hun
        have hjF : j ∉ fs.map (·.1) := fun hin => by
          obtain ⟨x, hx, rfl⟩ := List.mem_map.1 hin
          obtain ⟨_, _, _, _, _, ht⟩ := hok.fl x hx
          rw [ht] at htj; cases htj
        have h6 := List.all_eq_true.1 h4 j (by simpa using htj)
        rw [getD_same (hR.main j hjF)] at hun
        rw [hj] at h6
        simp only [hun, Bool.false_or] at h6
        obtain ⟨e, he, hb⟩ := Array.any_eq_true'.1 h6
        simp only [Bool.and_eq_true] at hb
        exact ⟨e, he, hb.1, dep_of hR _ _ hb.2⟩
    | (i, 2) :: rest, hm, hpl, htp, h =>
      obtain ⟨o, v, hi, hy, h⟩ := h
      simp only [planF, Bool.and_eq_true, Bool.not_eq_true'] at hpl
      obtain ⟨⟨⟨⟨⟨h1, h2⟩, h3⟩, h3'⟩, h4⟩, h5⟩ := hpl
      have hiF : i ∉ fs.map (·.1) := by simpa using h3'
      obtain ⟨hm1, hm2⟩ := hok.main i o hi hiF h3
      have key := ih rest (listed.setIfInBounds i true) (lF.setIfInBounds i true) β (a.put o.dst v) E w (by simp at hm; omega) (hR.step hiF) h5 htp hX hst hE hbl hinj h
      rw [putF_put fun x hx => (hm2 x hx).2.1] at key
      rw [show m + 1 + tp.length = (m + tp.length) + 1 by omega]
      refine wpAnyU_pure hi (Region.noSelect_spec hsel) h4 (fun c a w => hQ c a _ _ w) _ _ _ _ ?_ (hfrom i o hi hiF h3 (by simpa using h2)) (yields_putF (Region.noSelect_spec hsel i o · · hi) hy fun x hx => (hm2 x hx).1) key
      intro j oj hj hji hun hno
      by_cases hin : j ∈ fs.map (·.1)
      · obtain ⟨x, hx, rfl⟩ := List.mem_map.1 hin
        exact (hm2 x hx).2.2 oj hj
      · exact Region.free_spec hi h1 j oj hj hji (by rw [← getD_same (hR.main j hin)]; exact hun) hno
    | (i, 1) :: rest, hm, hpl, htp, h | (i, k + 3) :: rest, hm, hpl, htp, h =>
      simp only [planF, Bool.and_eq_true, Bool.not_eq_true', beq_iff_eq] at hpl
      obtain ⟨⟨⟨⟨h1, h2⟩, h3⟩, h4⟩, h5⟩ := hpl
      have hiF : i ∉ fs.map (·.1) := by simpa using h3
      have hir : i ∈ Region.ready .any ops lF := by rw [h1]; simp
      obtain ⟨_, o, hi, _⟩ := mem_ready.1 hir
      rw [show m + 1 + tp.length = (m + tp.length) + 1 by omega]
      refine ⟨fun h0 => (by have := hfrom i o hi hiF h2 hir; rw [h0] at this; cases this), fun j hj => ?_⟩
      by_cases hin : j ∈ fs.map (·.1)
      · obtain ⟨x, hx, rfl⟩ := List.mem_map.1 hin
        exact hal x hx (hfl x hx hj)
      · have hjr := hto j hin hj
        rw [h1] at hjr
        obtain rfl : j = i := by simpa using hjr
        obtain ⟨_, hm2⟩ := hok.main j o hi hiF h2
        refine wpOp_mono ?_ (wpOp_putF (β := β) hi (Region.noSelect_spec hsel j o · · hi) hQ' (h w hX hE) (fs := fs) fun x hx => ⟨(hm2 x hx).1, (hm2 x hx).2.1⟩)
        rintro a' w' ⟨a'', rfl, hXw, E', hst', hE', hk⟩
        refine ⟨fun _ _ => hX.trans hXw, ih rest (listed.setIfInBounds j true) (lF.setIfInBounds j true) β a'' E' w' (by simp at hm; omega) (hR.step hiF) h5 htp (hX.trans hXw) hst' hE' ?_ hinj hk⟩
        intro y hy b hyb
        obtain ⟨g1, g2⟩ := hbl y hy b hyb
        have hlt : b < w.heap.size := by
          rcases Nat.lt_or_ge b w.heap.size with hl | hl
          · exact hl
          · rw [Array.getElem?_eq_none hl] at g1; cases g1
        exact ⟨by rw [hXw.block hlt]; exact g1, g2⟩
/-- **The region, by a plan, with new variables at any time.** -/
theorem wp_float {id : Nat} {a : Act} {w : World} (fs : List FL) (pl : List (Nat × Nat)) (tp tl pu : List Nat) (hm : P.follows .mixedOrders = true) (hsel : Region.noSelect ops = true)
    (hok : (floatsOk ops fs tl && planF ops (fs.map (·.1)) tl pu (fs.foldl (fun l x => l.setIfInBounds x.1 true) (Array.replicate ops.size false)) pl && tailOk ops tl (listAll (fs.foldl (fun l x => l.setIfInBounds x.1 true) (Array.replicate ops.size false)) pl) tp && pl.length + fs.length + tp.length == ops.size) = true)
    (hQ : ∀ c a d v w, Q (.panic c) (a.put d v) w → Q (.panic c) a w) (hQ' : ∀ c a d v w, Q (.panic c) a w → Q (.panic c) (a.put d v) w)
    (hob : ∀ x ∈ fs, ∀ o, ops[x.1]? = some o → ∀ (a : Act) (w : World), (execOp a.eval o).run P w = .ok (.value (ptrB w.heap.size)) (w.alloc x.2.2))
    (h : wpFp P ops Q w.drew fs tp pl a (fun _ => True)) : (Code.region id ops true).wp P Q a w := by
  simp only [Bool.and_eq_true, beq_iff_eq] at hok
  obtain ⟨⟨⟨h1, h2⟩, h3⟩, h4⟩ := hok
  have hF := FOk.of h1
  refine wp_region_any hm (wpAny_of_U (S := Ext w.drew) (tl := tl) (pu := pu) _ _ _ _ ?_)
  have hnone : ∀ (fs' : List FL), np fs' (fun _ => none) = fs'.length := fun fs' => by
    unfold np; rw [List.countP_eq_length.2]; intro x hx; rfl
  have hput : ∀ (fs' : List FL) (a : Act), putF fs' (fun _ => none) a = a := fun fs' a => by
    induction fs' with
    | nil => rfl
    | cons x fs' ih => unfold putF; exact ih
  have hlF : ∀ (fs' : List FL) (l : Array Bool), l.size = ops.size → (∀ x ∈ fs', x.1 < ops.size) → (fs'.foldl (fun l x => l.setIfInBounds x.1 true) l).size = ops.size ∧ (∀ j : Nat, j ∉ fs'.map (·.1) → (fs'.foldl (fun l x => l.setIfInBounds x.1 true) l)[j]? = l[j]?) ∧
      (∀ x ∈ fs', (fs'.foldl (fun l x => l.setIfInBounds x.1 true) l)[x.1]? = some true) ∧ (∀ j : Nat, l[j]? = some true → (fs'.foldl (fun l x => l.setIfInBounds x.1 true) l)[j]? = some true) := by
    intro fs'
    induction fs' with
    | nil => intro l hl _; exact ⟨hl, fun _ _ => rfl, fun x hx => (by cases hx), fun _ h => h⟩
    | cons y fs' ih =>
      intro l hl hlt
      obtain ⟨i1, i2, i3, i4⟩ := ih (l.setIfInBounds y.1 true) (by simp [hl]) (fun x hx => hlt x (by simp [hx]))
      have hy : (l.setIfInBounds y.1 true)[y.1]? = some true := by
        have := hlt y (by simp)
        simp [hl, this]
      refine ⟨i1, fun j hj => ?_, fun x hx => ?_, fun j hj => ?_⟩
      · simp only [List.map_cons, List.mem_cons, not_or] at hj
        rw [List.foldl_cons, i2 j hj.2, Array.getElem?_setIfInBounds_ne (fun e => hj.1 e.symm)]
      · rcases List.mem_cons.1 hx with rfl | hx'
        · exact i4 _ hy
        · exact i3 x hx'
      · refine i4 j ?_
        by_cases e : y.1 = j
        · rw [← e]; exact hy
        · rw [Array.getElem?_setIfInBounds_ne e]; exact hj
  obtain ⟨l1, l2, l3, _⟩ := hlF fs (Array.replicate ops.size false) (by simp) (fun x hx => by
    obtain ⟨o, ho, _⟩ := hF.fl x hx
    exact (Array.getElem?_eq_some_iff.1 ho).1)
  have key := wpFp_sound (P := P) (Q := Q) (W0 := w.drew) (tp := tp) (pu := pu) hF hsel hQ hQ' hob (pl.length + fs.length) pl (Array.replicate ops.size false) _ (fun _ => none) a (fun _ => True) w.drew (by rw [hnone]) ⟨by rw [l1]; simp, fun j hj => (l2 j hj).symm, fun x hx => ⟨?_, l3 x hx⟩⟩ h2 h3 (Ext.refl _) (fun _ _ _ _ => trivial) trivial (fun x _ b hb => by cases hb) (fun x _ y _ b hb => by cases hb) h
  · rw [hput, h4] at key
    exact key
  · obtain ⟨o, ho, _⟩ := hF.fl x hx
    have := (Array.getElem?_eq_some_iff.1 ho).1
    simp [this]
variable {W0 : World} {fs : List FL} {tp : List Nat} {a : Act} {E : World → Prop} {i : Nat} {rest : List (Nat × Nat)} {o : Oper}
theorem wpFp_read {v : Value} (hi : ops.toList[i]? = some o) (hw : Region.wanted o (yielded ops a.tmps) = true) (h : ∀ w, Ext W0 w → (execOp a.eval o).run P w = .ok (.value v) w) (k : wpFp P ops Q W0 fs tp rest (a.put o.dst v) E) :
    wpFp P ops Q W0 fs tp ((i, 0) :: rest) a E := ⟨o, v, by simpa using hi, .inl ⟨hw, h⟩, k⟩
theorem wpFp_pure {v : Value} (hi : ops.toList[i]? = some o) (hw : Region.wanted o (yielded ops a.tmps) = true) (h : ∀ w, (execOp a.eval o).run P w = .ok (.value v) w) (k : wpFp P ops Q W0 fs tp rest (a.put o.dst v) E) :
    wpFp P ops Q W0 fs tp ((i, 2) :: rest) a E := ⟨o, v, by simpa using hi, .inl ⟨hw, fun w _ => h w⟩, k⟩
theorem wpFp_eff (hi : ops.toList[i]? = some o) (hw : Region.wanted o (yielded ops a.tmps) = true)
    (h : ∀ w, Ext W0 w → E w → ∀ K : Act → World → Prop, (∀ a' w' (E' : World → Prop), Ext w w' → (∀ w1 w2, Ext w1 w2 → E' w1 → E' w2) → E' w' → wpFp P ops Q W0 fs tp rest a' E' → K a' w') → o.wp P a w K Q) :
    wpFp P ops Q W0 fs tp ((i, 1) :: rest) a E := by
  have hi' : ops[i]? = some o := by simpa using hi
  intro w hX hE
  unfold wpOp
  simp only [hi', hw, if_true]
  exact .inl (h w hX hE _ fun a' w' E' h1 h2 h3 h4 => ⟨h1, E', h2, h3, h4⟩)
/-- One new variable: the world behind the others. -/
theorem wpFp_one {i t : Nat} {ob : Obj} (h : ∀ os1 d1 os2 d2, E (more ((more W0 os1 d1).alloc ob) os2 d2) → wpTl P ops Q tp (a.put (some t) (.pointer (some ⟨W0.heap.size + os1.size, 0, none⟩))) (more ((more W0 os1 d1).alloc ob) os2 d2)) :
    wpFp P ops Q W0 [(i, t, ob)] tp [] a E := by
  intro β w hX hE hb _
  obtain ⟨b, hb1, hb2, hb3⟩ := hb _ (List.mem_singleton.2 rfl)
  obtain ⟨os, d, rfl⟩ := hX.more
  obtain ⟨k, rfl⟩ : ∃ k, b = W0.heap.size + k := ⟨b - W0.heap.size, by omega⟩
  have hk : os[k]? = some ob := by
    have : (W0.heap ++ os)[W0.heap.size + k]? = some ob := hb2
    rw [Array.getElem?_append_right (by omega)] at this
    simpa using this
  have hklt : k < os.size := (Array.getElem?_eq_some_iff.1 hk).1
  have hos : os = (os.extract 0 k).push ob ++ os.extract (k + 1) os.size := by
    apply Array.ext_getElem?
    intro j
    have hs : (os.extract 0 k).size = k := by simp; omega
    rcases Nat.lt_trichotomy j k with hj | rfl | hj
    · rw [Array.getElem?_append_left (by simp; omega), Array.getElem?_push, if_neg (by omega), Array.getElem?_extract]
      simp
      omega
    · rw [Array.getElem?_append_left (by simp; omega), Array.getElem?_push, if_pos (by omega)]; exact hk
    · rw [Array.getElem?_append_right (by simp; omega), Array.getElem?_extract]
      by_cases h2 : j < os.size
      · rw [if_pos (by simp; omega)]
        congr 1
        simp
        omega
      · rw [if_neg (by simp; omega), Array.getElem?_eq_none (by omega)]
  have hw : more W0 os d = more ((more W0 (os.extract 0 k) d).alloc ob) (os.extract (k + 1) os.size) d := by
    simp only [more, World.alloc]
    congr 1
    conv => lhs; rw [hos]
    simp
  have hsz : (os.extract 0 k).size = k := by simp; omega
  have := h (os.extract 0 k) d (os.extract (k + 1) os.size) d (by rw [← hw]; exact hE)
  rw [← hw, hsz] at this
  have hp : putF [(i, t, ob)] β a = a.put (some t) (ptrB (W0.heap.size + k)) := by
    unfold putF
    rw [hb1]
    rfl
  rw [hp]
  exact this
/-- No new variable. -/
theorem wpFp_zero (h : ∀ os d, E (more W0 os d) → wpTl P ops Q tp a (more W0 os d)) : wpFp P ops Q W0 [] tp [] a E := by
  intro β w hX hE hb _
  obtain ⟨os, d, rfl⟩ := hX.more
  exact h os d hE
end
end Go.Proofs.YtfpaalkllfbeoaaGreatDoor
namespace Go.Proofs.YtfpaalkllfbeoaaGreatDoor
open Go.RowKit NM
theorem z64 : I64 0 := by unfold I64; omega
end Go.Proofs.YtfpaalkllfbeoaaGreatDoor
namespace Go.Proofs.YtfpaalkllfbeoaaGreatDoor
open Go.RowKit NM
abbrev tnV (x : Val) : Value := .tuple #[NV (tnP x).1 (tnP x).2, .int .i64 (tnF x)]
theorem tn_blank : tnV (Val.only 0) = .tuple #[NV 0 0, .int .i64 0] := rfl
theorem tn_num (m e : Int) : tnV ⟨1, m, e, ⟨#[]⟩, false, 0⟩ = .tuple #[NV m e, .int .i64 0] := rfl
theorem tn_true : tnV (truthV true) = .tuple #[NV 1 0, .int .i64 0] := rfl
theorem tn_false : tnV (truthV false) = .tuple #[NV 0 0, .int .i64 0] := rfl
theorem tn_bad (f : Int) : tnV (badV f) = .tuple #[NV 0 0, .int .i64 f] := rfl
theorem tn_text_no {t : ByteArray} (h : parS t = none) : tnV ⟨2, 0, 0, t, false, 0⟩ = .tuple #[NV 0 0, .int .i64 2] := by unfold tnV tnP tnF; simp [h]
theorem tn_text_yes {t : ByteArray} {p : Int × Int} (h : parS t = some p) : tnV ⟨2, 0, 0, t, false, 0⟩ = .tuple #[NV p.1 p.2, .int .i64 0] := by unfold tnV tnP tnF; simp [h]
set_option maxHeartbeats 1000000 in
theorem toNum_any (x : Val) (w : World) (hx : x.right) :
    Calls Tryz.prog 97 #[VV x.kind x.mant x.exp x.text x.truth x.fault] w fun e w' => e = .returned (tnV x) ∧ Ext w w' := by
  rcases hx.form with rfl | ⟨m, e, rfl, hr⟩ | ⟨t, rfl, ht⟩ | ⟨b, rfl⟩ | ⟨f, rfl, hf⟩
  · rw [tn_blank]
    simp only [Val.only]
    go_enter Tryz.func97, Tryz.ntmps97
    go_wp2_with fail
    exact bodyPost_ret (v := .tuple #[NV 0 0, .int .i64 0]) (by simp [results, Tryz.results97, go_sem]) rfl ⟨rfl, by with_reducible repeat (first | exact Ext.refl _ | apply Ext.drew | apply Ext.alloc | apply Ext.more_)⟩
  · rw [tn_num]
    clear hx hr
    simp only
    go_enter Tryz.func97, Tryz.ntmps97
    go_wp2_with fail
    exact bodyPost_ret (v := .tuple #[NV m e, .int .i64 0]) (by simp [results, Tryz.results97, go_sem]) rfl ⟨rfl, by with_reducible repeat (first | exact Ext.refl _ | apply Ext.drew | apply Ext.alloc | apply Ext.more_)⟩
  · have hp := fun W => parse_any t W (by omega)
    simp only
    cases h : parS t with
    | none =>
      rw [tn_text_no h]
      rw [h] at hp
      simp only [rnV, rm, re, Option.getD_none, Option.isSome_none] at hp
      clear h hx
      go_enter Tryz.func97, Tryz.ntmps97
      go_wp2_with (go_at_call 150; (with_reducible refine (hp _).mono ?_); rintro e w' ⟨rfl, hb⟩; obtain ⟨os, d, rfl⟩ := hb.more; clear hb)
      exact bodyPost_ret (v := .tuple #[NV 0 0, .int .i64 2]) (by simp [results, Tryz.results97, go_sem]) rfl ⟨rfl, by with_reducible repeat (first | exact Ext.refl _ | apply Ext.drew | apply Ext.alloc | apply Ext.more_)⟩
    | some p =>
      rw [tn_text_yes h]
      rw [h] at hp
      simp only [rnV, rm, re, Option.getD_some, Option.isSome_some] at hp
      clear h hx
      go_enter Tryz.func97, Tryz.ntmps97
      go_wp2_with (go_at_call 150; (with_reducible refine (hp _).mono ?_); rintro e w' ⟨rfl, hb⟩; obtain ⟨os, d, rfl⟩ := hb.more; clear hb)
      exact bodyPost_ret (v := .tuple #[NV p.1 p.2, .int .i64 0]) (by simp [results, Tryz.results97, go_sem]) rfl ⟨rfl, by with_reducible repeat (first | exact Ext.refl _ | apply Ext.drew | apply Ext.alloc | apply Ext.more_)⟩
  · cases b
    · rw [tn_false]
      simp only [truthV]
      clear hx
      go_enter Tryz.func97, Tryz.ntmps97
      go_wp2_with fail
      exact bodyPost_ret (v := .tuple #[NV 0 0, .int .i64 0]) (by simp [results, Tryz.results97, go_sem]) rfl ⟨rfl, by with_reducible repeat (first | exact Ext.refl _ | apply Ext.drew | apply Ext.alloc | apply Ext.more_)⟩
    · rw [tn_true]
      simp only [truthV]
      clear hx
      go_enter Tryz.func97, Tryz.ntmps97
      go_wp2_with fail
      exact bodyPost_ret (v := .tuple #[NV 1 0, .int .i64 0]) (by simp [results, Tryz.results97, go_sem]) rfl ⟨rfl, by with_reducible repeat (first | exact Ext.refl _ | apply Ext.drew | apply Ext.alloc | apply Ext.more_)⟩
  · rw [tn_bad]
    simp only [badV]
    clear hx hf
    go_enter Tryz.func97, Tryz.ntmps97
    go_upto_region 13 with fail
    go_region
    all_goals
      go_wp2_with fail
      exact bodyPost_ret (v := .tuple #[NV 0 0, .int .i64 f]) (by simp [results, Tryz.results97, go_sem]) rfl ⟨rfl, by with_reducible repeat (first | exact Ext.refl _ | apply Ext.drew | apply Ext.alloc | apply Ext.more_)⟩
end Go.Proofs.YtfpaalkllfbeoaaGreatDoor
namespace Go.Proofs.YtfpaalkllfbeoaaGreatDoor
open Go.RowKit NM
/-- A number of at most 15 digits is what it is. -/
theorem exactx {x e : Int} (hx : x.natAbs < T 15) (h1 : -40 ≤ e) (h2 : e ≤ 25) : ∃ m k, rndI x e = some (m, k) ∧ Rt m k ∧ sc m k = sc x e ∧ (m = 0 ↔ x = 0) ∧ (x ≠ 0 → e ≤ k) := by
  have hn : nd x.natAbs ≤ 15 := (nd_le_iff _ _).2 hx
  have hz : nd x.natAbs - 15 = 0 := by omega
  by_cases h0 : x = 0
  · subst h0
    refine ⟨0, 0, ?_, rt_zero, ?_, ⟨fun _ => rfl, fun _ => rfl⟩, fun h => absurd rfl h⟩
    · unfold rndI; exact rnd_nought _ _ _
    · unfold sc; rw [Int.zero_mul, Int.zero_mul]
  · have hN : x.natAbs ≠ 0 := by omega
    have e1 : n1 x.natAbs false = x.natAbs := by unfold n1; rw [hz, cutN_zero]
    have e2' : n2 x.natAbs false e = x.natAbs := by
      unfold n2; rw [e1, hz, show (-40 - (e + ((0 : Nat) : Int))).toNat = 0 by omega, cutN_zero]
    have e3 : NM.e2 x.natAbs e = e := by unfold NM.e2; rw [hz]; omega
    have hr : rndI x e = some (sg (decide (x < 0)) (trim x.natAbs e).1, (trim x.natAbs e).2) := by
      unfold rndI
      rw [rnd_fin, e2', e3]
      unfold fin
      rw [if_neg hN, if_neg (by omega)]
    obtain ⟨k, g1, g2, g3⟩ := trim_spec x.natAbs e hN
    have g4 : (trim x.natAbs e).1 ≠ 0 := fun h => g3 (by rw [h])
    refine ⟨_, _, hr, ?_, ?_, ⟨fun h => absurd (sg_zero.1 h) g4, fun h => absurd h h0⟩, fun _ => by rw [g2]; omega⟩
    · have := hr; unfold rndI at this; exact rnd_right this
    · have g5 := sc_trim (N := x.natAbs) (e := e) hN (by omega)
      unfold sc
      rw [← sg_mul_nat, g5, sg_mul_nat, sg_nat]
/-- The number of a whole number. -/
def wholeN (n : Int) : Int × Int := (rndI n 0).getD (0, 0)
theorem wholex {n : Int} (h : n.natAbs < T 15) : rndI n 0 = some (wholeN n) ∧ Rt (wholeN n).1 (wholeN n).2 ∧ sc (wholeN n).1 (wholeN n).2 = sc n 0 ∧ ((wholeN n).1 = 0 ↔ n = 0) ∧ 0 ≤ (wholeN n).2 := by
  obtain ⟨m, k, h1, h2, h3, h4, h5⟩ := exactx h (e := 0) (by omega) (by omega)
  have hw : wholeN n = (m, k) := by unfold wholeN; rw [h1]; rfl
  rw [hw]
  refine ⟨h1, h2, h3, h4, ?_⟩
  by_cases h0 : n = 0
  · have hm := h4.2 h0
    rcases h2 with ⟨_, hk⟩ | ⟨hm', _⟩
    · show 0 ≤ k; omega
    · exact absurd hm hm'
  · exact h5 h0
end Go.Proofs.YtfpaalkllfbeoaaGreatDoor
namespace Go.Proofs.YtfpaalkllfbeoaaGreatDoor
open NM
/-- 10 to the power 140: what no right number reaches, scaled. -/
def MX : Nat := T 140
/-- A value without its sign, scaled, to the nearest of so many, a half up; but beyond the greatest one itself. -/
def GU (U x : Nat) : Nat := (if U ≤ 2 * (x % U) then x / U + 1 else x / U) * U
def HU (U x : Nat) : Nat := if GU U x < MX then GU U x else x
/-- The same with a sign. -/
def HI (U : Nat) (x : Int) : Int := if x < 0 then -(HU U x.natAbs : Int) else HU U x.natAbs
theorem sc_sg (neg : Bool) (N : Nat) (e : Int) : sc (sg neg N) e = sg neg (N * T (e + 100).toNat) := by unfold sc; rw [sg_mul_nat]
theorem sg_nought (b : Bool) : sg b 0 = 0 := by cases b <;> rfl
end Go.Proofs.YtfpaalkllfbeoaaGreatDoor
namespace Go.Proofs.YtfpaalkllfbeoaaGreatDoor
open Go.RowKit NM
theorem fin_whole {neg : Bool} {N : Nat} (h : nd N ≤ 15) : rnd neg N false 0 = some (sg neg (trim N 0).1, (trim N 0).2) := by
  rw [rnd_small h (by omega)]
  unfold fin
  by_cases h0 : N = 0
  · subst h0; rw [if_pos rfl, trim_zero]; cases neg <;> rfl
  · rw [if_neg h0, if_neg (by omega)]
theorem floorN_nd {m e : Int} {k : Nat} (h : Rt m e) (hk : 0 < k) : nd (floorN m k) ≤ 15 := by
  obtain ⟨b1, _, _⟩ := Rt_bd h
  have hT15 : T 15 = 1000000000000000 := by decide
  have h1 : m.natAbs / T k ≤ m.natAbs / T 1 := Nat.div_le_div_left (T_mono hk) (T_pos 1)
  have h2 : T 1 = 10 := by decide
  rw [h2] at h1
  rw [nd_le_iff]
  unfold floorN
  split <;> omega
end Go.Proofs.YtfpaalkllfbeoaaGreatDoor
namespace Go.Proofs.YtfpaalkllfbeoaaGreatDoor
open Go.RowKit NM
/-- 10 to the power 100, as a word. -/
def HX : Int := ((T 100 : Nat) : Int)
theorem HX_pos : 0 < HX := by have := T_pos 100; unfold HX; omega
theorem whole_sc {neg : Bool} {N : Nat} (h : nd N ≤ 15) : Rt (sg neg (trim N 0).1) (trim N 0).2 ∧ sc (sg neg (trim N 0).1) (trim N 0).2 = sg neg N * HX ∧ 0 ≤ (trim N 0).2 := by
  have h1 := fin_whole (neg := neg) h
  refine ⟨rnd_right h1, ?_, ?_⟩
  · rw [sc_sg]
    by_cases h0 : N = 0
    · rw [h0, trim_zero, Nat.zero_mul, sg_nought, Int.zero_mul]
    · rw [sc_trim h0 (by omega), sg_mul_nat]; rfl
  · by_cases h0 : N = 0
    · rw [h0, trim_zero]; exact Int.le_refl _
    · obtain ⟨k, _, hb, _⟩ := trim_spec N 0 h0
      rw [hb]; omega
theorem floor_spec {m e : Int} (h : Rt m e) : Rt (floorS m e).1 (floorS m e).2 ∧ 0 ≤ (floorS m e).2 ∧ sc (floorS m e).1 (floorS m e).2 ≤ sc m e ∧ sc m e < sc (floorS m e).1 (floorS m e).2 + HX := by
  have hH := HX_pos
  unfold floorS
  rw [if_neg (by simpa using h)]
  by_cases h0 : 0 ≤ e
  · rw [if_pos h0]; exact ⟨h, h0, Int.le_refl _, by show sc m e < sc m e + HX; omega⟩
  · rw [if_neg h0]
    obtain ⟨b1, b2, b3⟩ := Rt_bd h
    obtain ⟨k, hk⟩ : ∃ k : Nat, -e = (k : Int) := ⟨(-e).toNat, by omega⟩
    rw [hk, Int.toNat_natCast]
    have hk0 : 0 < k := by omega
    have hk100 : k ≤ 100 := by omega
    obtain ⟨w1, w2, w3⟩ := whole_sc (neg := decide (m < 0)) (floorN_nd h hk0)
    refine ⟨w1, w3, ?_⟩
    show sc (sg (decide (m < 0)) (trim (floorN m k) 0).1) (trim (floorN m k) 0).2 ≤ sc m e ∧ sc m e < sc (sg (decide (m < 0)) (trim (floorN m k) 0).1) (trim (floorN m k) 0).2 + HX
    rw [w2]
    have hdm := Nat.div_add_mod m.natAbs (T k)
    have hml := Nat.mod_lt m.natAbs (T_pos k)
    have hsc : sc m e = m * ((T (100 - k) : Nat) : Int) := by unfold sc; congr 3; omega
    have hHX : HX = ((T k : Nat) : Int) * ((T (100 - k) : Nat) : Int) := by unfold HX; rw [← T_cast_mul]; congr 2; omega
    have hr0 : m < 0 → m.natAbs % T k ≠ 0 := by
      intro hm
      rcases h with ⟨h1, _⟩ | ⟨_, _, h3, _, _⟩
      · omega
      · exact mod_T_ne h3 hk0
    have ht := T_pos (100 - k)
    unfold floorN
    rw [hsc, hHX]
    generalize T (100 - k) = t at *
    generalize m.natAbs / T k = q at *
    generalize m.natAbs % T k = r at *
    generalize T k = u at *
    have htI : (0 : Int) < (t : Int) := by omega
    have hrt : (r : Int) * (t : Int) < (u : Int) * (t : Int) := Int.mul_lt_mul_of_pos_right (by omega) htI
    have hrp : 0 ≤ (r : Int) * (t : Int) := Int.mul_nonneg (by omega) (by omega)
    by_cases hm : m < 0
    · have hmr : m = -((u : Int) * (q : Int) + (r : Int)) := by rw [← Int.natCast_mul]; omega
      have hr1 : 0 < (r : Int) * (t : Int) := Int.mul_pos (by have := hr0 hm; omega) htI
      rw [if_pos hm, decide_eq_true hm]
      have e1 : sg true (q + 1) * ((u : Int) * (t : Int)) = -((q : Int) * ((u : Int) * (t : Int))) - (u : Int) * (t : Int) := by
        simp only [sg, if_true]; rw [Int.neg_mul, Int.natCast_add, Int.add_mul]; simp; omega
      have e2 : m * (t : Int) = -((q : Int) * ((u : Int) * (t : Int))) - (r : Int) * (t : Int) := by
        rw [hmr, Int.neg_mul, Int.add_mul, Int.mul_comm (u : Int) (q : Int), Int.mul_assoc]; omega
      rw [e1, e2]
      omega
    · have hmr : m = (u : Int) * (q : Int) + (r : Int) := by rw [← Int.natCast_mul]; omega
      rw [if_neg hm, show decide (m < 0) = false by simp [hm]]
      have e1 : sg false q * ((u : Int) * (t : Int)) = (q : Int) * ((u : Int) * (t : Int)) := by simp [sg]
      have e2 : m * (t : Int) = (q : Int) * ((u : Int) * (t : Int)) + (r : Int) * (t : Int) := by
        rw [hmr, Int.add_mul, Int.mul_comm (u : Int) (q : Int), Int.mul_assoc]
      rw [e1, e2]
      omega
theorem int_go : ∀ (k : Nat) (n : Int), (n * (T k : Nat)).natAbs ≤ 1000000000000000 → intGo n k = some (n * (T k : Nat))
  | 0, n, _ => by simp [intGo, T]
  | k + 1, n, h => by
    have h1 : n * ((T (k + 1) : Nat) : Int) = n * 10 * ((T k : Nat) : Int) := by rw [T_succ, Int.natCast_mul, ← Int.mul_assoc]; rfl
    rw [h1] at h ⊢
    have h2 : n.natAbs * 10 ≤ 1000000000000000 := by
      have h3 : (n * 10 * ((T k : Nat) : Int)).natAbs = n.natAbs * 10 * T k := by rw [Int.natAbs_mul, Int.natAbs_mul, Int.natAbs_natCast]; rfl
      rw [h3] at h
      exact Nat.le_trans (Nat.le_mul_of_pos_right _ (T_pos k)) h
    rw [intGo, if_neg (by omega)]
    exact int_go k (n * 10) h
theorem sc_whole {m e : Int} (h : 0 ≤ e) : sc m e = m * (T e.toNat : Nat) * HX := by
  unfold sc HX
  rw [Int.mul_assoc, ← T_cast_mul]; congr 3; omega
end Go.Proofs.YtfpaalkllfbeoaaGreatDoor
namespace Go.Proofs.YtfpaalkllfbeoaaGreatDoor
open Go.RowKit NM
theorem rt_i64 {m e : Int} (h : Rt m e) : I64 m := by
  obtain ⟨h1, h2, h3⟩ := Rt_bd h
  unfold I64; omega
def cntV (n : Int) : Val := ⟨1, (wholeN n).1, (wholeN n).2, ⟨#[]⟩, false, 0⟩
/-- A value's whole number, and a fault. -/
def wholeO (v : Val) : Int × Int := if tnF v = 0 then ((intS (floorS (tnP v).1 (tnP v).2).1 (floorS (tnP v).1 (tnP v).2).2).getD 0, if (intS (floorS (tnP v).1 (tnP v).2).1 (floorS (tnP v).1 (tnP v).2).2).isSome then 0 else 5) else (0, tnF v)
end Go.Proofs.YtfpaalkllfbeoaaGreatDoor
namespace Go.Proofs.YtfpaalkllfbeoaaGreatDoor
open Go.RowKit
theorem turnL_length (R C : Nat) (l : List Val) : (turnL R C l).length = C * R := vals_length _ _ _
theorem getV_all {P : Val → Prop} {l : List Val} {k : Nat} (h : ∀ x ∈ l, P x) (hk : k < l.length) : P (getV l k) := h _ (getV_mem hk)
theorem turn_all {P : Val → Prop} {R C : Nat} {l : List Val} (hl : l.length = R * C) (h : ∀ x ∈ l, P x) : ∀ x ∈ turnL R C l, P x := by
  intro x hx
  unfold turnL vals at hx
  obtain ⟨t, ht, rfl⟩ := List.mem_map.1 hx
  have ht' : t < C * R := List.mem_range.1 ht
  have hR : 0 < R := by rcases Nat.eq_zero_or_pos R with rfl | h; · simp at ht'
                        · exact h
  refine getV_all h ?_
  rw [hl]
  have h1 : t / R < C := Nat.div_lt_of_lt_mul (by rw [Nat.mul_comm]; exact ht')
  have h2 : t % R < R := Nat.mod_lt _ hR
  calc t % R * C + t / R < t % R * C + C := by omega
    _ = (t % R + 1) * C := by rw [Nat.succ_mul]
    _ ≤ R * C := Nat.mul_le_mul_right _ h2
end Go.Proofs.YtfpaalkllfbeoaaGreatDoor
namespace Go.Proofs.YtfpaalkllfbeoaaGreatDoor
open Go.RowKit
theorem wp_append_own {P : Program} (w : World) {o : Oper} {a : Act} {K : Act → World → Prop} {Q : Exit → Act → World → Prop} (s x : Operand) (t : TypeId)
    (ho : o.op = .call { callee := .builtin .append, args := #[s, x], argTypes := #[t, t] })
    (base : Nat) (e : TypeId) (i : TypeInfo) (z : Value) (size bytes : Nat) (ht : P.underlying t = some (.slice e)) (hi : P.info? e = some i) (hz : i.zero = some z)
    (hsize : i.size = size) (hby : i.bytes = bytes) (hzs : z.cells.size = size) (hsz : 0 < size)
    (v : Value) (n : Nat) (xs : List Value) (hs : a.eval s = v) (hown : w.ownsRow base e size v n xs)
    (ad : Addr) (m c : Nat) (news : List Value) (hx : a.eval x = .slice (some ad) m c) (hl : news.length = m * size) (hnews : ∀ j u, news[j]? = some u → w.cell? (ad.add j) = some u) (h1 : ∀ u ∈ news, u.oneCell' = true)
    (b1 : n + m ≤ maxLen) (b2 : (n + m) * bytes ≤ 140737488355328) (hbase : base ≤ w.heap.size)
    (h : ∀ v' w', w'.ownsRow base e size v' (n + m) (xs ++ news) → w.grownBy w' v.ownBlock → K (a.put o.dst v') w') : o.wp P a w K Q := by
  obtain ⟨v', w', hr, h2, h3, _⟩ := run_append_own (P := P) w base t o.type e i z size bytes ht hi hz hsize hby hzs hsz v n xs hown ad m c news hl hnews h1 b1 b2 hbase
  unfold Oper.wp execOp
  simp only [ho, resolve, invoke, builtin, Sem.run_bind, Sem.run_pure, Result.andThen_ok, List.map_toArray, List.map_cons, List.map_nil, hs, hx, hr]
  exact h v' w' h2 h3
theorem new_cells_at (w : World) (n : Nat) (cs : List Value) {C : Array Value} (hn : n = w.heap.size) (hC : C = cs.toArray) (ty : TypeId) : ∀ j u, cs[j]? = some u → (w.alloc (.cells C ty)).cell? ((⟨n, 0, none⟩ : Addr).add j) = some u := by
  subst hn hC; exact new_cells w cs ty
theorem own_slice {w : World} {base : Nat} {e : TypeId} {size n : Nat} {v : Value} {xs : List Value} (h : w.ownsRow base e size v n xs) : ∃ A c, v = .slice A n c := by
  rcases h.2 with ⟨rfl, rfl⟩ | ⟨g, cap, cur, rfl, _⟩
  · exact ⟨_, _, rfl⟩
  · exact ⟨_, _, rfl⟩
theorem own_ext {w w1 : World} {base : Nat} {e : TypeId} {size n : Nat} {v : Value} {xs : List Value} (h : w.ownsRow base e size v n xs) (hx : Ext w w1) : w1.ownsRow base e size v n xs := by
  refine ⟨h.1, ?_⟩
  rcases h.2 with h2 | ⟨g, cap, cur, hv, hg, hh, r⟩
  · exact .inl h2
  · refine .inr ⟨g, cap, cur, hv, hg, ?_, r⟩
    rw [hx.block ?_]; exact hh
    rcases Nat.lt_or_ge g w.heap.size with hl | hl
    · exact hl
    · rw [Array.getElem?_eq_none hl] at hh; cases hh
theorem own_block {w : World} {base : Nat} {e : TypeId} {size n : Nat} {v : Value} {xs : List Value} (h : w.ownsRow base e size v n xs) : ∀ k, v.ownBlock = some k → base ≤ k := by
  intro k hk
  rcases h.2 with ⟨rfl, _⟩ | ⟨g, cap, cur, rfl, hg, _⟩
  · cases hk
  · simp only [Value.ownBlock, Option.some.injEq] at hk; omega
theorem lt_of_block {w : World} {b : Nat} {o : Obj} (h : w.heap[b]? = some o) : b < w.heap.size := by
  rcases Nat.lt_or_ge b w.heap.size with hl | hl
  · exact hl
  · rw [Array.getElem?_eq_none hl] at h; cases h
set_option maxHeartbeats 400000 in
theorem refGet_any (R C i j : Nat) (A : Option Addr) (n cap : Nat) (l : List Val) (w : World) (h : ArrIn w A n cap l) (hn : n = R * C) (hN : n ≤ 4096) (hi : i < R) (hj : j < C) (x : Val) (hx : getV l (i * C + j) = x) :
    Calls Tryz.prog 107 #[AV R C (.slice A n cap), .int .i64 i, .int .i64 j] w fun e w' => e = .returned (VV x.kind x.mant x.exp x.text x.truth x.fault) ∧ Ext w w' := by
  subst hn
  obtain ⟨hk, hk2⟩ := cell_prod R hi hj hN
  obtain ⟨b, off, rfl, hv, ho⟩ := h.get hk
  rw [hx] at hv
  clear hx ho
  obtain ⟨v0, v1, v2, v3, v4, v5⟩ := hv
  have hbl : b < w.heap.size := lt_of_cell v0
  have w1 : IntKind.i64.wrap ((i : Int) * (C : Int)) = ((i * C : Nat) : Int) := by rw [IntKind.wrap_i64, Int.natCast_mul]; omega
  generalize hjc : i * C = jc at *
  generalize hrc : R * C = rc at *
  clear hjc hrc
  go_enter Tryz.func107, Tryz.ntmps107
  go_wp2
  exact bodyPost_ret (v := VV x.kind x.mant x.exp x.text x.truth x.fault) (by simp [results, Tryz.results107, go_sem]) rfl ⟨rfl, by repeat (first | exact Ext.refl _ | exact ext_app _ _ _ _ _ | exact ext_app2 _ _ _ _ _ _ | apply Ext.drew | apply Ext.alloc | apply Ext.more_)⟩
end Go.Proofs.YtfpaalkllfbeoaaGreatDoor
namespace Go.Proofs.YtfpaalkllfbeoaaGreatDoor
open Go.RowKit
/-- The first fault. -/
def firstF : List Val → Option Int
  | [] => none
  | x :: l => if x.kind = 4 then some x.fault else firstF l
theorem firstF_at : ∀ {l : List Val} {k : Nat} {x : Val}, (∀ j y, j < k → l[j]? = some y → y.kind ≠ 4) → l[k]? = some x → x.kind = 4 → firstF l = some x.fault
  | [], k, x, _, h, _ => by simp at h
  | y :: l, 0, x, _, h, hk => by
    obtain rfl : y = x := by simpa using h
    simp [firstF, hk]
  | y :: l, k + 1, x, hn, h, hk => by
    have h0 := hn 0 y (by omega) rfl
    simp only [firstF, h0, if_false]
    exact firstF_at (k := k) (fun j z hj hz => hn (j + 1) z (by omega) (by simpa using hz)) (by simpa using h) hk
theorem firstF_none : ∀ {l : List Val}, (∀ j y, j < l.length → l[j]? = some y → y.kind ≠ 4) → firstF l = none
  | [], _ => rfl
  | y :: l, hn => by
    have h0 := hn 0 y (by simp) rfl
    simp only [firstF, h0, if_false]
    exact firstF_none (fun j z hj hz => hn (j + 1) z (by simp; omega) (by simpa using hz))
theorem kinds_succ {l : List Val} {k : Nat} {x : Val} (H : ∀ j y, j < k → l[j]? = some y → y.kind ≠ 4) (hx : l[k]? = some x) (h : x.kind ≠ 4) : ∀ j y, j < k + 1 → l[j]? = some y → y.kind ≠ 4 := by
  intro j y hj hy
  by_cases hjk : j = k
  · subst hjk
    obtain rfl : x = y := by rw [hx] at hy; simpa using hy
    exact h
  · exact H j y (by omega) hy
set_option maxHeartbeats 400000 in
theorem refFirst_any (r c : Int) (A : Option Addr) (n cap : Nat) (l : List Val) (w : World) (h : ArrIn w A n cap l) (f : Int) (hf : (firstF l).getD 0 = f) :
    Calls Tryz.prog 120 #[AV r c (.slice A n cap)] w fun e w' => e = .returned (.int .i64 f) ∧ Ext w w' := by
  have hsm := h.small
  have HF := Lib.hid hf
  clear hf
  go_enter Tryz.func120, Tryz.ntmps120
  go_wp2
  go_loopw [3] (fun i wr => ∃ k : Nat, k ≤ n ∧ i = .int .i64 k ∧ Ext (w.alloc (Obj.cells #[.int .i64 r, .int .i64 c, .slice A n cap] 31)) wr ∧ Hid (∀ j y, j < k → l[j]? = some y → y.kind ≠ 4)) (fun i _ => n - (intOf i).toNat)
  case atStart => exact ⟨0, Nat.zero_le _, rfl, Ext.refl _, fun j y hj => absurd hj (Nat.not_lt_zero _)⟩
  case round =>
    obtain ⟨k, hk, rfl, hX, H⟩ := hrel
    obtain ⟨os, d, rfl⟩ := hX.more
    by_cases hlt : k < n
    · obtain ⟨x, b, off, hx, hxo, rfl, hv⟩ := h.at hlt; obtain ⟨v0, v1, v2, v3, v4, v5⟩ := hv; have hbl : b < w.heap.size := lt_of_cell v0
      by_cases hk4 : x.kind = 4
      · have hf : f = x.fault := by rw [← HF.out, firstF_at H.out hx hk4]; rfl
        have HF2 := Lib.hid hf
        clear hf
        have h4 : (x.kind == 4) = true := by simp [hk4]
        clear hk4
        go_wp2
        go_ret
        exact ⟨ret_int HF2.out.symm, by repeat (first | exact Ext.refl _ | exact ext_app _ _ _ _ _ | exact ext_app2 _ _ _ _ _ _ | apply Ext.drew | apply Ext.alloc | apply Ext.more_)⟩
      · have HK := Lib.hid hk4
        have h4 : (x.kind == 4) = false := by simp [hk4]
        clear hk4
        go_wp2
        exact ⟨⟨k + 1, by omega, by go_num, by repeat (first | exact Ext.refl _ | exact ext_app _ _ _ _ _ | exact ext_app2 _ _ _ _ _ _ | apply Ext.drew | apply Ext.alloc | apply Ext.more_), kinds_succ H.out hx HK.out⟩, by simp [intOf]; omega⟩
    · have hf : f = 0 := by
        rw [← HF.out, firstF_none (fun j y hj hy => H.out j y (by have := h.len; omega) hy)]; rfl
      subst hf
      go_wp2
      go_ret
      exact ⟨rfl, by repeat (first | exact Ext.refl _ | exact ext_app _ _ _ _ _ | exact ext_app2 _ _ _ _ _ _ | apply Ext.drew | apply Ext.alloc | apply Ext.more_)⟩
set_option maxHeartbeats 400000 in
theorem first_yes (r c : Int) (A : Option Addr) (n cap : Nat) (l : List Val) (w : World) (h : ArrIn w A n cap l) (hr : rightA r c l = true) (f : Int) (g : Bool) (hf : (firstF l).getD 0 = f) (hg : (firstF l).isSome = g) :
    Calls Tryz.prog 95 #[AV r c (.slice A n cap)] w fun e w' => e = .returned (.tuple #[.int .i64 f, .bool g]) ∧ Ext w w' := by
  have hsm := h.small
  have HF := Lib.hid hf
  have HG := Lib.hid hg
  clear hf hg
  go_enter Tryz.func95, Tryz.ntmps95
  go_wp2_with fail
  refine (right_any _ _ _ _ _ _ _ (h.ext (by repeat (first | exact Ext.refl _ | exact ext_app _ _ _ _ _ | exact ext_app2 _ _ _ _ _ _ | apply Ext.drew | apply Ext.alloc | apply Ext.more_)))).mono ?_; rintro e w' ⟨rfl, hb⟩; obtain ⟨os1, d1, rfl⟩ := hb.more; clear hb
  go_wp2
  go_loopw [11] (fun i wr => ∃ k : Nat, k ≤ n ∧ i = .int .i64 k ∧ Ext (w.alloc (Obj.cells #[.int .i64 r, .int .i64 c, .slice A n cap] 31)) wr ∧ Hid (∀ j y, j < k → l[j]? = some y → y.kind ≠ 4)) (fun i _ => n - (intOf i).toNat)
  case atStart => exact ⟨0, Nat.zero_le _, rfl, by repeat (first | exact Ext.refl _ | exact ext_app _ _ _ _ _ | exact ext_app2 _ _ _ _ _ _ | apply Ext.drew | apply Ext.alloc | apply Ext.more_), fun j y hj => absurd hj (Nat.not_lt_zero _)⟩
  case round =>
    obtain ⟨k, hk, rfl, hX, H⟩ := hrel
    obtain ⟨os, d, rfl⟩ := hX.more
    by_cases hlt : k < n
    · obtain ⟨x, b, off, hx, hxo, rfl, hv⟩ := h.at hlt; obtain ⟨v0, v1, v2, v3, v4, v5⟩ := hv; have hbl : b < w.heap.size := lt_of_cell v0
      by_cases hk4 : x.kind = 4
      · have hf : f = x.fault ∧ g = true := by rw [← HF.out, ← HG.out, firstF_at H.out hx hk4]; exact ⟨rfl, rfl⟩
        have HF2 := Lib.hid hf.1
        obtain rfl := hf.2
        clear hf
        have h4 : (x.kind == 4) = true := by simp [hk4]
        clear hk4
        go_wp2
        go_ret2
        exact ⟨by have := HF2.out; subst this; rfl, by repeat (first | exact Ext.refl _ | exact ext_app _ _ _ _ _ | exact ext_app2 _ _ _ _ _ _ | apply Ext.drew | apply Ext.alloc | apply Ext.more_)⟩
      · have HK := Lib.hid hk4
        have h4 : (x.kind == 4) = false := by simp [hk4]
        clear hk4
        go_wp2
        exact ⟨⟨k + 1, by omega, by go_num, by repeat (first | exact Ext.refl _ | exact ext_app _ _ _ _ _ | exact ext_app2 _ _ _ _ _ _ | apply Ext.drew | apply Ext.alloc | apply Ext.more_), kinds_succ H.out hx HK.out⟩, by simp [intOf]; omega⟩
    · have hf : f = 0 ∧ g = false := by
        rw [← HF.out, ← HG.out, firstF_none (fun j y hj hy => H.out j y (by have := h.len; omega) hy)]; exact ⟨rfl, rfl⟩
      obtain ⟨rfl, rfl⟩ := hf
      go_wp2
      go_ret2
      exact ⟨rfl, by repeat (first | exact Ext.refl _ | exact ext_app _ _ _ _ _ | exact ext_app2 _ _ _ _ _ _ | apply Ext.drew | apply Ext.alloc | apply Ext.more_)⟩
end Go.Proofs.YtfpaalkllfbeoaaGreatDoor
namespace Go.Proofs.YtfpaalkllfbeoaaGreatDoor
open Go.RowKit NM
@[go_sem] theorem run_field_L (r c : Int) (s : Value) (w : World) : (Instr.field 31 (AV r c s) 2).run Tryz.prog w = .ok s w := by
  first | rfl | kernel_rfl
/-- An array turned. -/
def turnN (a : NA) : NA := ⟨a.C, a.R, turnL a.R a.C a.l⟩
theorem turn_res (a : NA) (A : Option Addr) (n cap : Nat) (w : World) (h : ArrIn w A n cap a.l) (hr : a.right) :
    Calls Tryz.prog 55 #[AV a.R a.C (.slice A n cap)] w fun e w' => ResA w (turnN a) e w' := by
  refine (turn_yes a.R a.C A n cap a.l w h hr).mono ?_
  rintro e w' ⟨⟨D, c, rfl, hs, hc⟩, hX⟩
  obtain ⟨a1, a2, a3, a4, a5⟩ := rightA_nat.1 hr
  exact ⟨D, _, c, rfl, ⟨hs, rfl, hc, by rw [turnL_length]; rw [Nat.mul_comm] at a3; omega, turn_all a4 h.ok⟩, hX⟩
end Go.Proofs.YtfpaalkllfbeoaaGreatDoor
namespace Go.Proofs.YtfpaalkllfbeoaaGreatDoor
open Go.RowKit NM
theorem cell_lt {R C i j : Nat} (hi : i < R) (hj : j < C) : i * C + j < R * C := by
  calc i * C + j < i * C + C := by omega
    _ = (i + 1) * C := by rw [Nat.succ_mul]
    _ ≤ R * C := Nat.mul_le_mul_right _ hi
end Go.Proofs.YtfpaalkllfbeoaaGreatDoor
namespace Go.Proofs.YtfpaalkllfbeoaaGreatDoor
open Go.RowKit NM
/-- Is the argument of that place given? -/
def givenB (xs : List Ar) (k : Nat) : Bool := match xs[k]? with
  | none => false
  | some a => !(a.x.R == 1 && a.x.C == 1 && (getV a.x.l 0).kind == 0)
def argV (xs : List Ar) (k : Nat) : Val := match xs[k]? with
  | none => Val.zero
  | some a => getV a.x.l 0
def numO (xs : List Ar) (k : Nat) (left : Int) : Int × Int := if givenB xs k then wholeO (argV xs k) else (left, 0)
def argN (xs : List Ar) (k : Nat) : NA := match xs[k]? with
  | none => ⟨0, 0, []⟩
  | some a => a.x
/-- SEQUENCE: k + 1 values, and the last number. -/
def seqS (a s : Int × Int) : Nat → Option (List Val × (Int × Int))
  | 0 => some ([⟨1, a.1, a.2, ⟨#[]⟩, false, 0⟩], a)
  | k + 1 => match seqS a s k with
    | none => none
    | some (l, p) => match addS p.1 p.2 s.1 s.2 with
      | none => none
      | some q => some (l ++ [⟨1, q.1, q.2, ⟨#[]⟩, false, 0⟩], q)
theorem seqS_none {a s : Int × Int} {k : Nat} (h : seqS a s k = none) : ∀ j, seqS a s (k + j) = none
  | 0 => h
  | j + 1 => by
    rw [← Nat.add_assoc]
    unfold seqS
    rw [seqS_none h j]
theorem seqS_some {a s : Int × Int} : ∀ {k : Nat} {l : List Val} {p : Int × Int}, Rt a.1 a.2 → Rt s.1 s.2 → seqS a s k = some (l, p) → l.length = k + 1 ∧ Rt p.1 p.2 ∧ ∀ x ∈ l, x.right
  | 0, l, p, ha, hs, h => by
    simp only [seqS, Option.some.injEq, Prod.mk.injEq] at h
    obtain ⟨rfl, rfl⟩ := h
    refine ⟨rfl, ha, fun x hx => ?_⟩
    obtain rfl := List.mem_singleton.1 hx
    exact right_num ha
  | k + 1, l, p, ha, hs, h => by
    unfold seqS at h
    cases h1 : seqS a s k with
    | none => rw [h1] at h; cases h
    | some r =>
      obtain ⟨l1, p1⟩ := r
      rw [h1] at h
      simp only at h
      obtain ⟨i1, i2, i3⟩ := seqS_some ha hs h1
      cases h2 : addS p1.1 p1.2 s.1 s.2 with
      | none => rw [h2] at h; cases h
      | some q =>
        rw [h2] at h
        simp only [Option.some.injEq, Prod.mk.injEq] at h
        obtain ⟨rfl, rfl⟩ := h
        have hq := addS_rt h2
        refine ⟨by simp [i1], hq, fun x hx => ?_⟩
        rcases List.mem_append.1 hx with hx | hx
        · exact i3 x hx
        · obtain rfl := List.mem_singleton.1 hx
          exact right_num hq
/-- A number's argument, 1 if it is left out. -/
def tnO (xs : List Ar) (k : Nat) : (Int × Int) × Int := if givenB xs k then (tnP (argV xs k), tnF (argV xs k)) else ((1, 0), 0)
def seqT (m n : Int × Int) (a s : (Int × Int) × Int) : NA :=
  if m.2 ≠ 0 then aloneO m.2 else if n.2 ≠ 0 then aloneO n.2 else if a.2 ≠ 0 then aloneO a.2 else if s.2 ≠ 0 then aloneO s.2
  else if m.1 < 1 ∨ n.1 < 1 then aloneO 9 else if 4096 < m.1 * n.1 then aloneO 5
  else match seqS a.1 s.1 (m.1.toNat * n.1.toNat - 1) with
    | none => aloneO 5
    | some (l, _) => ⟨m.1.toNat, n.1.toNat, l⟩
def sequenceO (xs : List Ar) : NA := seqT (numO xs 0 1) (numO xs 1 1) (tnO xs 2) (tnO xs 3)
/-- MMULT: the sum of k + 1 products. -/
def dotS (a b : NA) (i j : Nat) : Nat → Option (Int × Int)
  | 0 => mulS (getV a.l (i * a.C)).mant (getV a.l (i * a.C)).exp (getV b.l j).mant (getV b.l j).exp
  | k + 1 => (dotS a b i j k).bind fun s => (mulS (getV a.l (i * a.C + (k + 1))).mant (getV a.l (i * a.C + (k + 1))).exp (getV b.l ((k + 1) * b.C + j)).mant (getV b.l ((k + 1) * b.C + j)).exp).bind fun x => addS s.1 s.2 x.1 x.2
def prodO (a b : NA) : Nat → Option (List Val)
  | 0 => some []
  | t + 1 => (prodO a b t).bind fun l => (dotS a b (t / b.C) (t % b.C) (a.C - 1)).map fun p => l ++ [⟨1, p.1, p.2, ⟨#[]⟩, false, 0⟩]
def multT (a b : NA) : NA :=
  if a.C ≠ b.R then aloneO 2
  else match firstF a.l with
    | some f => aloneO f
    | none => match firstF b.l with
      | some f => aloneO f
      | none => if (a.l ++ b.l).any (fun v => decide (v.kind ≠ 1)) then aloneO 2
        else if 4096 < a.R * b.C then aloneO 5
        else match prodO a b (a.R * b.C) with
          | none => aloneO 5
          | some l => ⟨a.R, b.C, l⟩
def productO (xs : List Ar) : NA := multT (argN xs 0) (argN xs 1)
end Go.Proofs.YtfpaalkllfbeoaaGreatDoor
namespace Go.Proofs.YtfpaalkllfbeoaaGreatDoor
open Go.RowKit NM
/-- An argument, and its first value. -/
theorem ArgsIn.first {w : World} {A : Option Addr} {n cap : Nat} {xs : List Ar} (h : ArgsIn w A n cap xs) {k : Nat} (hk : k < n) :
    ∃ (R C : Nat) (l : List Val) (b1 off1 n1 cap1 b off : Nat) (x : Val), xs[k]? = some ⟨⟨R, C, l⟩, some ⟨b1, off1, none⟩, n1, cap1⟩ ∧ A = some ⟨b, off, none⟩ ∧ ArAt w b (off + k * 3) ⟨⟨R, C, l⟩, some ⟨b1, off1, none⟩, n1, cap1⟩ ∧ 0 < n1 ∧ n1 ≤ cap1 ∧ ValAt w b1 off1 x ∧ getV l 0 = x ∧ x.right ∧ b < w.heap.size ∧ b1 < w.heap.size ∧ argV xs k = x ∧ givenB xs k = !(R == 1 && C == 1 && x.kind == 0) ∧ ArrIn w (some ⟨b1, off1, none⟩) n1 cap1 l ∧ l[0]? = some x := by
  obtain ⟨⟨⟨R, C, l⟩, A1, n1, cap1⟩, b, off, ha, rfl, hat, hok⟩ := h.at hk
  obtain ⟨r1, r2, r3, r4, r5⟩ := rightA_nat.1 hok.right
  have hl : l.length = n1 := hok.arr.len
  have hn1 : 0 < n1 := by rw [← hl, r4]; exact Nat.mul_pos r1 r2
  obtain ⟨x, b1, off1, hx, _, hA, hv⟩ := hok.arr.at hn1
  rw [Nat.zero_mul, Nat.add_zero] at hv
  have hA' : A1 = some ⟨b1, off1, none⟩ := hA
  subst hA'
  have hgv : getV l 0 = x := by unfold getV; rw [hx]; rfl
  have hxr : x.right := r5 x (List.mem_of_getElem? hx)
  have hav : argV xs k = x := by unfold argV; rw [ha]; exact hgv
  have hgb : givenB xs k = !(R == 1 && C == 1 && x.kind == 0) := by unfold givenB; rw [ha, ← hgv]
  exact ⟨R, C, l, b1, off1, n1, cap1, b, off, x, ha, rfl, hat, hn1, hok.arr.cap, hv, hgv, hxr, lt_of_cell hat.1, lt_of_cell hv.1, hav, hgb, hok.arr, hx⟩
set_option maxHeartbeats 1000000 in
theorem given_any (A : Option Addr) (n cap : Nat) (xs : List Ar) (k : Nat) (w : World) (h : ArgsIn w A n cap xs) (g : Bool) (hg : givenB xs k = g) :
    Calls Tryz.prog 89 #[.slice A n cap, .int .i64 (k : Int)] w fun e w' => e = .returned (.bool g) ∧ Ext w w' := by
  by_cases hlt : k < n
  · obtain ⟨R, C, l, b1, off1, n1, cap1, b, off, x, ha, rfl, ⟨v0, v1, v2⟩, hn1, hc1, ⟨y0, y1, y2, y3, y4, y5⟩, hgv, hxr, hbl, hb1, hav, hgb, harr, hx⟩ := h.first hlt
    rw [hgb] at hg
    simp only at v0 v1 v2
    clear ha hgv hxr hav hgb harr hx
    have hsm := h.small
    have hcap := h.cap
    have hlt' : ¬ n ≤ k := by omega
    clear h
    obtain ⟨xk, xm, xe, xt, xb, xf⟩ := x
    simp only at y0 y1 y2 y3 y4 y5 hg
    generalize hR : (R : Int) = r at v0
    generalize hC : (C : Int) = c at v1
    by_cases h1 : R = 1
    · obtain rfl : r = 1 := by omega
      by_cases h2 : C = 1
      · obtain rfl : c = 1 := by omega
        subst h1 h2
        by_cases h3 : xk = 0
        · subst h3
          obtain rfl : g = false := by rw [← hg]; rfl
          clear hg hR hC
          go_enter Tryz.func89, Tryz.ntmps89
          go_wp2
          exact bodyPost_ret (v := .bool false) (by simp [results, Tryz.results89, go_sem]) rfl ⟨rfl, by with_reducible repeat (first | exact Ext.refl _ | apply Ext.drew | apply Ext.alloc | apply Ext.more_)⟩
        · have h3' : (xk != 0) = true := by simpa using h3
          have h3'' : (xk == 0) = false := by simpa using h3
          obtain rfl : g = true := by rw [← hg, h3'']; rfl
          clear hg hR hC h3
          go_enter Tryz.func89, Tryz.ntmps89
          go_wp2
          exact bodyPost_ret (v := .bool true) (by simp [results, Tryz.results89, go_sem]) rfl ⟨rfl, by with_reducible repeat (first | exact Ext.refl _ | apply Ext.drew | apply Ext.alloc | apply Ext.more_)⟩
      · have h2' : (c != 1) = true := by simp; omega
        have h2'' : (C == 1) = false := by simpa using h2
        obtain rfl : g = true := by rw [← hg, h2'']; simp
        subst h1
        clear hg hR hC h2 h2''
        go_enter Tryz.func89, Tryz.ntmps89
        go_wp2
        exact bodyPost_ret (v := .bool true) (by simp [results, Tryz.results89, go_sem]) rfl ⟨rfl, by with_reducible repeat (first | exact Ext.refl _ | apply Ext.drew | apply Ext.alloc | apply Ext.more_)⟩
    · have h1' : (r != 1) = true := by simp; omega
      have h1'' : (R == 1) = false := by simpa using h1
      obtain rfl : g = true := by rw [← hg, h1'']; rfl
      clear hg hR hC h1 h1''
      go_enter Tryz.func89, Tryz.ntmps89
      go_wp2
      exact bodyPost_ret (v := .bool true) (by simp [results, Tryz.results89, go_sem]) rfl ⟨rfl, by with_reducible repeat (first | exact Ext.refl _ | apply Ext.drew | apply Ext.alloc | apply Ext.more_)⟩
  · obtain rfl : g = false := by rw [← hg]; unfold givenB; rw [List.getElem?_eq_none (by rw [h.len]; omega)]
    have hsm := h.small
    have hlt' : n ≤ k := by omega
    clear hg
    go_enter Tryz.func89, Tryz.ntmps89
    go_wp2
    exact bodyPost_ret (v := .bool false) (by simp [results, Tryz.results89, go_sem]) rfl ⟨rfl, by with_reducible repeat (first | exact Ext.refl _ | apply Ext.drew | apply Ext.alloc | apply Ext.more_)⟩
set_option maxHeartbeats 1000000 in
theorem gnumber_any (A : Option Addr) (n cap : Nat) (xs : List Ar) (k : Nat) (left : Int) (w : World) (h : ArgsIn w A n cap xs) (y : Int × Int) (hy : numO xs k left = y) :
    Calls Tryz.prog 84 #[.slice A n cap, .int .i64 (k : Int), .int .i64 left] w fun e w' => e = .returned (.tuple #[.int .i64 y.1, .int .i64 y.2]) ∧ Ext w w' := by
  have hgv := fun W (hW : ArgsIn W A n cap xs) g hg => given_any A n cap xs k W hW g hg
  have H := Lib.hid h
  subst hy
  unfold numO
  cases hg : givenB xs k with
  | false =>
    rw [if_neg (by simp)]
    have hgw := fun W (hW : ArgsIn W A n cap xs) => hgv W hW false (by rw [hg])
    clear hgv hg h
    go_enter Tryz.func84, Tryz.ntmps84
    go_wp2_with (go_at_call 89; (with_reducible refine (hgw _ (H.out.ext (by with_reducible repeat (first | exact Ext.refl _ | apply Ext.drew | apply Ext.alloc | apply Ext.more_)))).mono ?_); rintro e w' ⟨rfl, hb⟩; obtain ⟨os, d, rfl⟩ := hb.more; clear hb)
    exact bodyPost_ret (v := .tuple #[.int .i64 left, .int .i64 0]) (by simp [results, Tryz.results84, go_sem]) rfl ⟨rfl, by with_reducible repeat (first | exact Ext.refl _ | apply Ext.drew | apply Ext.alloc | apply Ext.more_)⟩
  | true =>
    rw [if_pos rfl]
    have hgw := fun W (hW : ArgsIn W A n cap xs) => hgv W hW true (by rw [hg])
    have hlt : k < n := by
      rcases Nat.lt_or_ge k n with hl | hl
      · exact hl
      · unfold givenB at hg; rw [List.getElem?_eq_none (by rw [h.len]; exact hl)] at hg; cases hg
    obtain ⟨R, C, l, b1, off1, n1, cap1, b, off, x, ha, rfl, ⟨v0, v1, v2⟩, hn1, hc1, ⟨y0, y1, y2, y3, y4, y5⟩, _, hxr, hbl, hb1, hav, _, _, _⟩ := h.first hlt
    rw [hav]
    simp only at v0 v1 v2
    have hcap := h.cap
    have ht := fun W => toNum_any x W hxr
    have hi1 : I64 (tnP x).1 := rt_i64 (tn_rt hxr)
    unfold wholeO
    generalize htp : tnP x = p at *
    generalize htf : tnF x = f at *
    by_cases hf : f = 0
    · subst hf
      rw [if_pos rfl]
      have hfl := fun W => floor_any p.1 p.2 W hi1
      have hi2 : I64 (floorS p.1 p.2).1 := rt_i64 (by exact (floor_spec (by rw [← htp]; exact tn_rt hxr)).1)
      generalize hq : floorS p.1 p.2 = q at *
      have hin := fun W => int_any q.1 q.2 W hi2
      cases hI : intS q.1 q.2 with
      | none =>
        rw [hI] at hin
        simp only [inV, Option.getD_none, Option.isSome_none] at hin ⊢
        simp only [tnV, htp, htf] at ht
        clear hI hq htp htf ha hxr hav hi1 hi2 h hg hgv
        go_enter Tryz.func84, Tryz.ntmps84
        go_wp2_with (first | (go_at_call 89; (with_reducible refine (hgw _ (H.out.ext (by with_reducible repeat (first | exact Ext.refl _ | apply Ext.drew | apply Ext.alloc | apply Ext.more_)))).mono ?_); rintro e w' ⟨rfl, hb⟩; obtain ⟨os, d, rfl⟩ := hb.more; clear hb) | (go_at_call 97; (with_reducible refine (ht _).mono ?_); rintro e w' ⟨rfl, hb⟩; obtain ⟨os, d, rfl⟩ := hb.more; clear hb) | (go_at_call 145; (with_reducible refine (hfl _).mono ?_); rintro e w' ⟨rfl, hb⟩; obtain ⟨os, d, rfl⟩ := hb.more; clear hb) | (go_at_call 144; (with_reducible refine (hin _).mono ?_); rintro e w' ⟨rfl, hb⟩; obtain ⟨os, d, rfl⟩ := hb.more; clear hb))
        exact bodyPost_ret (v := .tuple #[.int .i64 0, .int .i64 5]) (by simp [results, Tryz.results84, go_sem]) rfl ⟨rfl, by with_reducible repeat (first | exact Ext.refl _ | apply Ext.drew | apply Ext.alloc | apply Ext.more_)⟩
      | some i =>
        rw [hI] at hin
        simp only [inV, Option.getD_some, Option.isSome_some] at hin ⊢
        simp only [tnV, htp, htf] at ht
        clear hI hq htp htf ha hxr hav hi1 hi2 h hg hgv
        go_enter Tryz.func84, Tryz.ntmps84
        go_wp2_with (first | (go_at_call 89; (with_reducible refine (hgw _ (H.out.ext (by with_reducible repeat (first | exact Ext.refl _ | apply Ext.drew | apply Ext.alloc | apply Ext.more_)))).mono ?_); rintro e w' ⟨rfl, hb⟩; obtain ⟨os, d, rfl⟩ := hb.more; clear hb) | (go_at_call 97; (with_reducible refine (ht _).mono ?_); rintro e w' ⟨rfl, hb⟩; obtain ⟨os, d, rfl⟩ := hb.more; clear hb) | (go_at_call 145; (with_reducible refine (hfl _).mono ?_); rintro e w' ⟨rfl, hb⟩; obtain ⟨os, d, rfl⟩ := hb.more; clear hb) | (go_at_call 144; (with_reducible refine (hin _).mono ?_); rintro e w' ⟨rfl, hb⟩; obtain ⟨os, d, rfl⟩ := hb.more; clear hb))
        exact bodyPost_ret (v := .tuple #[.int .i64 i, .int .i64 0]) (by simp [results, Tryz.results84, go_sem]) rfl ⟨rfl, by with_reducible repeat (first | exact Ext.refl _ | apply Ext.drew | apply Ext.alloc | apply Ext.more_)⟩
    · rw [if_neg hf]
      have hf' : (f != 0) = true := by simpa using hf
      simp only [tnV, htp, htf] at ht
      clear htp htf ha hxr hav hi1 h hg hgv
      go_enter Tryz.func84, Tryz.ntmps84
      go_wp2_with (first | (go_at_call 89; (with_reducible refine (hgw _ (H.out.ext (by with_reducible repeat (first | exact Ext.refl _ | apply Ext.drew | apply Ext.alloc | apply Ext.more_)))).mono ?_); rintro e w' ⟨rfl, hb⟩; obtain ⟨os, d, rfl⟩ := hb.more; clear hb) | (go_at_call 97; (with_reducible refine (ht _).mono ?_); rintro e w' ⟨rfl, hb⟩; obtain ⟨os, d, rfl⟩ := hb.more; clear hb))
      exact bodyPost_ret (v := .tuple #[.int .i64 0, .int .i64 f]) (by simp [results, Tryz.results84, go_sem]) rfl ⟨rfl, by with_reducible repeat (first | exact Ext.refl _ | apply Ext.drew | apply Ext.alloc | apply Ext.more_)⟩
end Go.Proofs.YtfpaalkllfbeoaaGreatDoor
namespace Go.Proofs.YtfpaalkllfbeoaaGreatDoor
open Go.RowKit NM
theorem made_any (r c : Int) (A : Option Addr) (n cap : Nat) (w : World) :
    Calls Tryz.prog 51 #[.int .i64 r, .int .i64 c, .slice A n cap] w fun e w' => e = .returned (AV r c (.slice A n cap)) ∧ Ext w w' := by
  go_enter Tryz.func51, Tryz.ntmps51
  go_wp2
  exact bodyPost_ret (v := AV r c (.slice A n cap)) (by simp [results, Tryz.results51, go_sem]) rfl ⟨rfl, by with_reducible repeat (first | exact Ext.refl _ | apply Ext.drew | apply Ext.alloc | apply Ext.more_)⟩
theorem cnt_ok {n : Int} (h : n.natAbs < T 15) : (cntV n).ok := (right_num (wholex h).2.1).ok
theorem cnt_right15 {n : Int} (h : n.natAbs < T 15) : (cntV n).right := right_num (wholex h).2.1
set_option maxHeartbeats 1000000 in
theorem gturn_any (A : Option Addr) (cap : Nat) (a : Ar) (w : World) (h : ArgsIn w A 1 cap [a]) :
    Calls Tryz.prog 54 #[.slice A 1 cap] w fun e w' => ResA w (turnN a.x) e w' := by
  obtain ⟨b, off, rfl, ⟨v0, v1, v2⟩, hok⟩ := h.get (k := 0) (a := a) rfl
  have hbl := lt_of_cell v0
  have hcap := h.cap
  have ht := fun W (hW : ArrIn W a.A a.n a.cap a.x.l) => turn_res a.x a.A a.n a.cap W hW hok.right
  generalize turnN a.x = y at *
  have HA := Lib.hid hok.arr
  clear h hok
  simp only [Nat.zero_mul, Nat.add_zero] at v0 v1 v2
  go_enter Tryz.func54, Tryz.ntmps54
  go_wp2_with (first | (go_at_call 55; (with_reducible refine (ht _ (HA.out.ext (by with_reducible repeat (first | exact Ext.refl _ | apply Ext.drew | apply Ext.alloc | apply Ext.more_)))).mono ?_); rintro e w' ⟨D, m, cc, rfl, hD, hb⟩; obtain ⟨os5, d5, rfl⟩ := hb.more; clear hb; have hDr := hD.rd))
  exact bodyPost_ret (v := AV y.R y.C (.slice D m cc)) (by simp [results, Tryz.results54, go_sem]) rfl ⟨D, m, cc, rfl, ⟨(by (try simp only [more_more] at hDr); (try simp only [drew_more] at hDr); (try simp only [more_drew] at hDr); (try simp only [Array.append_assoc] at hDr); exact Rd.swap hDr (by first | (simp; done) | (simp; omega) | omega) (by first | (simp; done) | (simp; omega) | omega) (by first | (simp; done) | (simp; omega) | omega)), hD.len, hD.cap, hD.small, hD.ok⟩, by with_reducible repeat (first | exact Ext.refl _ | apply Ext.drew | apply Ext.alloc | apply Ext.more_)⟩
end Go.Proofs.YtfpaalkllfbeoaaGreatDoor
namespace Go.Proofs.YtfpaalkllfbeoaaGreatDoor
open Go.RowKit NM
theorem ext_grownN {X W w3 : World} {ty : TypeId} {size n : Nat} {v : Value} {xs : List Value} (hx : Ext X W) (ho : W.ownsRow X.heap.size ty size v n xs) (hg : W.grownBy w3 v.ownBlock) : Ext X w3 :=
  ⟨hg.os.trans hx.os, hg.tape.trans hx.tape, hg.output.trans hx.output, Nat.le_trans hx.size hg.size, fun b hb => (hg.block b (Nat.lt_of_lt_of_le hb hx.size) (fun e => by have := own_block ho _ e.symm; omega)).trans (hx.block hb)⟩
theorem make_vals (N : Nat) (hN : N ≤ 4096) (W : World) : (Instr.makeSlice 29 (.int .i64 0) (.int .i64 (N : Int))).run Tryz.prog W = .ok (.slice (some ⟨W.heap.size, 0, none⟩) 0 N) (W.alloc (.cells (madeCells #[.int .i64 0, .int .i64 0, .int .i64 0, .string ⟨#[]⟩, .bool false, .int .i64 0] (N * 6)) 43)) := by
  obtain ⟨i0, hi, hz0, hz1, hz2⟩ := info_parts info_val
  have := run_make (P := Tryz.prog) W 29 43 i0 _ Tryz.underlying29 hi hz0 .i64 .i64 0 (N : Int) (by omega) (by omega) (by rw [hz2]; omega) (by omega)
  simpa [hz1, Value.cells] using this
theorem made_own (X : World) (base N : Nat) (hN : N ≤ 4096) (hb : base ≤ X.heap.size) : (X.alloc (.cells (madeCells #[.int .i64 0, .int .i64 0, .int .i64 0, .string ⟨#[]⟩, .bool false, .int .i64 0] (N * 6)) 43)).ownsRow base 43 6 (.slice (some ⟨X.heap.size, 0, none⟩) 0 N) 0 [] := by
  have h0 := World.ownsRow_made (base := base) (e := 43) (size := 6) X (madeCells #[.int .i64 0, .int .i64 0, .int .i64 0, .string ⟨#[]⟩, .bool false, .int .i64 0] (N * 6)) N hb (by simp only [maxLen]; omega) (by rw [size_madeCells])
  exact h0
/-- What a list of one's own is, handed back. -/
theorem own_arrN {X w w' : World} {v : Value} {n : Nat} {l : List Val} (h : w'.ownsRow X.heap.size 43 6 v n (vcells l)) (hx : w.heap.size ≤ X.heap.size) (hn : n ≤ 9223372036854775807) (hok : ∀ x ∈ l, x.ok) :
    ∃ D cc, v = .slice D n cc ∧ ArrN w.heap.size w' D n cc l := by
  obtain ⟨D, cc, hv, hr, hc⟩ := Rd.of_own h
  have hl : l.length = n := by have := h.1; rw [vcells_length] at this; omega
  exact ⟨D, cc, hv, ⟨hr.mono hx, hl, hc, hn, hok⟩⟩
theorem lt_mul {r R C : Nat} (h : r < R) (hm : R * C ≤ 4096) : r * C + C ≤ R * C ∧ r * C ≤ 4096 := by
  have := Nat.mul_le_mul_right C (show r + 1 ≤ R by omega)
  rw [Nat.add_mul, Nat.one_mul] at this
  omega
end Go.Proofs.YtfpaalkllfbeoaaGreatDoor
